/- Lemmas for the law: Pe Pf Pg PgE Ph PgR PgS PgC Pi Pk Pn. -/
import Derived.Test.YtcgdncpioafbdaaGreatDoorRows
import Derived.Test.YtcgdncpioafbdaaGreatDoorTie
import Derived.Test.YtcgdncpioafbdaaGreatDoorCards
import Derived.Test.YtcgdncpioafbdaaGreatDoorS1
import Derived.Test.YtcgdncpioafbdaaGreatDoorS2
import Derived.Test.YtcgdncpioafbdaaGreatDoorS3
set_option linter.unusedVariables false
set_option linter.unusedSimpArgs false
namespace Go.Proofs.YtcgdncpioafbdaaGreatDoor.Q
open Go Go.RowKit Go.Proofs.YtcgdncpioafbdaaGreatDoorW.PrintWords Go.Proofs.YtcgdncpioafbdaaGreatDoorW.PrintLast
def ExprAt (k:Nat):Prop:=∀ (w0:World) (g:Nat) (ts:List S32) (w:World) (least:Int),PS w0 g ts w → 2 * ts.length + 1 ≤ k → Calls Tryz.prog 358 #[.pointer (some ⟨g,0,none⟩),.int .i64 least] w (Out w0 g (Vex w.heap.size) w (Ps.expr k least ts))
def FirstAt (k:Nat):Prop:=∀ (w0:World) (g:Nat) (ts:List S32) (w:World),PS w0 g ts w → 2 * ts.length ≤ k → Calls Tryz.prog 368 #[.pointer (some ⟨g,0,none⟩)] w (Out w0 g (Vex w.heap.size) w (Ps.first k ts))
theorem PS.setB {w0 w:World} {g:Nat} {ts:List S32} (h:PS w0 g ts w) {b:Nat} (hb:w0.heap.size ≤ b) (hg:b ≠ g) (j:Nat) (v:Value):PS w0 g ts (w.setCell ⟨b,j,none⟩ v):=by
 obtain ⟨h1,h2,h3,⟨A,c,h4,h5,h6⟩,h7⟩:=h
 have h8:=h3.setCell (p:=⟨b,j,none⟩) hb v
 have hs:=(((Below.refl w.heap.size w).mono (Nat.zero_le _)).setCell (B:=0) (p:=⟨b,j,none⟩) (Nat.zero_le _) v).size
 exact ⟨h1,Nat.lt_of_lt_of_le h2 hs,h8,⟨A,c,h4,h5,(Below.heap_setCell w ⟨b,j,none⟩ v g (fun e => hg e.symm)).trans h6⟩,h7⟩
theorem Gr.setB {g:Nat} {w w1:World} (h:Gr g w w1) {b:Nat} (hb:w.heap.size ≤ b) (j:Nat) (v:Value):Gr g w (w1.setCell ⟨b,j,none⟩ v):=by
 have hc:Below 0 w1 (w1.setCell ⟨b,j,none⟩ v):=((Below.refl w1.heap.size w1).mono (Nat.zero_le _)).setCell (Nat.zero_le _) v
 refine ⟨hc.os.trans h.os,hc.tape.trans h.tape,hc.output.trans h.output,Nat.le_trans h.size hc.size,fun i hi hg => ?_⟩
 rw [Below.heap_setCell w1 ⟨b,j,none⟩ v i (show i ≠ b by omega)]
 exact h.block i hi hg
theorem Gr.blk {g b:Nat} {w w1:World} {o:Obj} (h:Gr g w w1) (hb:w.heap[b]? = some o) (hg:b ≠ g):w1.heap[b]? = some o:=(h.block b (blk_lt hb) hg).trans hb
set_option maxHeartbeats 4000000 in
set_option maxRecDepth 100000 in
theorem expr_step (k:Nat) (ihE:∀ j,j ≤ k → ExprAt j) (ihF:FirstAt k):ExprAt (k + 1):=by
 intro w0 g ts w least hps hk
 have HP:=Aside0.mk hps
 clear hps
 have hlt:=HP.out.lt
 by_cases c:(Ps.pk ts).toList=Ps.sNot.toList∧least > 3
 ·have c0:((Ps.pk ts).toList == Ps.sNot.toList)=true:=beq_iff_eq.mpr c.1
  have c1:decide (3 < least)=true:=decide_eq_true c.2
  have HM:=Aside0.mk (show Ps.expr (k + 1) least ts=none by simp only [Ps.expr];rw [if_pos c])
  clear c
  rw [wNot] at c0
  go_enter Tryz.func358,Tryz.ntmps358
  go_wp2_with (first | (go_at_call 327;refine (peek_calls (HP.out.alloc _)).mono ?_;rintro e w1 ⟨rfl,hb⟩;have HB:=Aside0.mk hb;clear hb) | (go_at_call 264;refine (fail_calls g _).mono ?_;rintro e w3 ⟨rfl,rfl⟩))
  exact ⟨rfl,Out.of_none HM.out (((Gr.refl g w).alloc _).step HB.out)⟩
 ·have hc:((Ps.pk ts).toList == [110,111,116])=false ∨ (((Ps.pk ts).toList == [110,111,116])=true∧decide (3 < least)=false):=by
   rw [wNot] at c
   by_cases c1:(Ps.pk ts).toList=[110,111,116]
   ·exact .inr ⟨beq_iff_eq.mpr c1,decide_eq_false (fun h => c ⟨c1,h⟩)⟩
   ·exact .inl (beq_eq_false_iff_ne.mpr c1)
  have HM:=Aside0.mk (show Ps.expr (k + 1) least ts=match Ps.first k ts with
   | none => none
   | some (e,r) => Ps.more k least e r by simp only [Ps.expr];rw [if_neg c];cases Ps.first k ts <;> rfl)
  clear c
  cases hf:Ps.first k ts with
  | none =>
   rw [hf] at HM
   have HF:=Aside0.mk hf
   clear hf
   rcases hc with c0 | ⟨c0,c1⟩
   all_goals
    go_enter Tryz.func358,Tryz.ntmps358
    go_wp2_with (first | (go_at_call 327;refine (peek_calls (HP.out.alloc _)).mono ?_;rintro e w1 ⟨rfl,hb⟩;have HB:=Aside0.mk hb;clear hb) | (go_at_call 368;refine (ihF w0 g ts _ ((HP.out.alloc _).below HB.out) (by omega)).mono ?_;intro e w2 ho;obtain ⟨hg,rfl⟩:=ho.none HF.out;have HG:=Aside0.mk hg;clear hg ho))
    exact ⟨rfl,Out.of_none HM.out ((((Gr.refl g w).alloc _).step HB.out).trans HG.out)⟩
  | some p =>
   obtain ⟨e0,r0⟩:=p
   rw [hf] at HM
   have HF:=Aside0.mk hf
   clear hf
   have hlow:=HP.out.low
   rcases hc with c0 | ⟨c0,c1⟩
   all_goals
    go_enter Tryz.func358,Tryz.ntmps358
    go_wp2_with (first | (go_at_call 327;refine (peek_calls (HP.out.alloc _)).mono ?_;rintro e w1 ⟨rfl,hb⟩;have HB:=Aside0.mk hb;clear hb) | (go_at_call 368;refine (ihF w0 g ts _ ((HP.out.alloc _).below HB.out) (by omega)).mono ?_;intro e w2 ho;obtain ⟨hg,v,rfl,hv,hp⟩:=ho.some HF.out;obtain ⟨A0,n0,rfl,hn0,hf0⟩:=hv;have HG:=Aside0.mk ((((Gr.refl g w).alloc _).step HB.out).trans hg);have HQ:=Aside0.mk hp;have HN:=Aside0.mk hn0;have HE:=Aside0.mk hf0;have BR:=Aside0.mk (hg.blk ((HB.out.block w.heap.size (by simp)).trans (new_blk _ rfl)) (by omega));have hsz:w.heap.size < w2.heap.size:=Nat.lt_of_lt_of_le (by have:=HB.out.size;simp at this;omega) hg.size;have hsz1:w.heap.size < w1.heap.size:=(by have:=HB.out.size;simp at this;omega);clear hg ho hp hn0 hf0;unfold cells43))
    go_loopg [6] k (fun kq v6 w' => ∃ (e:S43) (A:Option Addr) (n:Nat) (tq:List S32),Aside0 (Ps.more kq least e tq=Ps.expr (k + 1) least ts)∧Aside0 (2 * tq.length + 1 ≤ kq)∧Aside0 (kq ≤ k)∧Aside0 (w'.heap[w2.heap.size]? = some (.cells (cells43 e A n).toArray 43 (0,0)))∧Aside0 (w'.heap[w.heap.size]? = some (.cells #[.string ⟨#[]⟩,.int .i64 0,.int .i64 0,.string ⟨#[]⟩,.string ⟨#[]⟩,.slice none 0 0] 43 (0,0)))∧Aside0 (e.f3.length ≤ n)∧Aside0 (Kd.F k43 w' (fun q => w.heap.size < q∧q ≠ w2.heap.size) A e.f3.length e.f3)∧Aside0 (PS w0 g tq w')∧Aside0 (Gr g w w'))
    case atStart => exact ⟨e0,A0,n0,r0,⟨HM.out.symm⟩,⟨by have:=Ps.first_len HF.out;omega⟩,⟨Nat.le_refl _⟩,⟨new_blk _ rfl⟩,⟨blk_alloc BR.out _⟩,HN,⟨Kd.F_alloc (Kd.F_mono (Kd.F_bound HE.out) (fun q hq => ⟨by omega,by omega⟩)) _⟩,⟨HQ.out.alloc _⟩,⟨HG.out.alloc _⟩⟩
    case round =>
     clear HM HF HQ HN HE BR HG HB
     try clear c0
     try clear c1
     obtain ⟨e,A,n,tq,HM,HL,HK,BK,BR,HN,HE,HQ,HG⟩:=hrel
     have hwr:w2.heap.size < wr.heap.size:=blk_lt BK.out
     cases gk with
     | zero => exact absurd HL.out (by omega)
     | succ j =>
      have hm:=HM.out
      clear HM
      simp only [Ps.more] at hm
      obtain ⟨s,hs⟩:∃ s,Ps.pk tq=s:=⟨_,rfl⟩
      obtain ⟨b,hb0⟩:∃ b,Ps.binds s=b:=⟨_,rfl⟩
      rw [hs,hb0] at hm
      have BV:=Aside0.mk hb0
      have BI:=Aside0.mk (show parse_binds.f 3 s=some b by rw [binds_is,hb0])
      have HS:=Aside0.mk hs
      clear hs hb0
      by_cases k1:b=0
      ·rw [if_pos k1] at hm
       have b0:(b == 0)=true:=beq_iff_eq.mpr k1
       have HM:=Aside0.mk hm
       clear k1 hm
       go_wp2_with (first | (go_at_call 327;refine (peek_calls HQ.out).mono ?_;rintro e w3 ⟨rfl,hb⟩;rw [HS.out];have hg:=Gr.of_below (g:=g) hb;have BK3:=Aside0.mk (hg.blk BK.out (by omega));have BR3:=Aside0.mk (hg.blk BR.out (by omega));have HE3:=Aside0.mk (hg.F HE.out (fun q hq => by omega));have b3c0:w3.cell? ⟨w2.heap.size,0,none⟩=some (.string e.f0):=(blk_cell BK3.out 0).trans rfl;have b3c1:w3.cell? ⟨w2.heap.size,1,none⟩=some (.int .i64 e.f1.f0):=(blk_cell BK3.out 1).trans rfl;have b3c2:w3.cell? ⟨w2.heap.size,2,none⟩=some (.int .i64 e.f1.f1):=(blk_cell BK3.out 2).trans rfl;have b3c3:w3.cell? ⟨w2.heap.size,3,none⟩=some (.string e.f1.f2):=(blk_cell BK3.out 3).trans rfl;have b3c4:w3.cell? ⟨w2.heap.size,4,none⟩=some (.string e.f2):=(blk_cell BK3.out 4).trans rfl;have b3c5:w3.cell? ⟨w2.heap.size,5,none⟩=some (.slice A e.f3.length n):=(blk_cell BK3.out 5).trans rfl;have r3c0:w3.cell? ⟨w.heap.size,0,none⟩=some (.string ⟨#[]⟩):=(blk_cell BR3.out 0).trans rfl;have r3c1:w3.cell? ⟨w.heap.size,1,none⟩=some (.int .i64 0):=(blk_cell BR3.out 1).trans rfl;have r3c2:w3.cell? ⟨w.heap.size,2,none⟩=some (.int .i64 0):=(blk_cell BR3.out 2).trans rfl;have r3c3:w3.cell? ⟨w.heap.size,3,none⟩=some (.string ⟨#[]⟩):=(blk_cell BR3.out 3).trans rfl;have r3c4:w3.cell? ⟨w.heap.size,4,none⟩=some (.string ⟨#[]⟩):=(blk_cell BR3.out 4).trans rfl;have r3c5:w3.cell? ⟨w.heap.size,5,none⟩=some (.slice none 0 0):=(blk_cell BR3.out 5).trans rfl;have b3z0:=blk_frozen BK3.out 0;have b3z1:=blk_frozen BK3.out 1;have b3z2:=blk_frozen BK3.out 2;have b3z3:=blk_frozen BK3.out 3;have b3z4:=blk_frozen BK3.out 4;have b3z5:=blk_frozen BK3.out 5;have r3z0:=blk_frozen BR3.out 0;have r3z1:=blk_frozen BR3.out 1;have r3z2:=blk_frozen BR3.out 2;have r3z3:=blk_frozen BR3.out 3;have r3z4:=blk_frozen BR3.out 4;have r3z5:=blk_frozen BR3.out 5;have HQ3:=Aside0.mk (HQ.out.below hb);have HG3:=Aside0.mk (HG.out.trans hg);clear hg hb) | (go_at_call 102;refine (parse_binds.calls 3 _ _ _ BI.out).mono ?_;rintro e w4 ⟨rfl,⟨nd,rfl⟩⟩))
       refine bodyPost_ret (v:=.agg (cells43 e A n).toArray) ?_ rfl ?_
       ·simp [results,Tryz.results358,go_sem,cells43,r3c0,r3c1,r3c2,r3c3,r3c4,r3c5,r3z0,r3z1,r3z2,r3z3,r3z4,r3z5]
       ·refine Out.of_some HM.out.symm ?_ ⟨A,n,rfl,HN.out,?_⟩ ?_
        ·with_reducible (repeat (first | exact HG3.out | apply Gr.drewN | refine Gr.setB ?_ (Nat.le_refl _) _ _))
        ·refine Kd.F_mono (ok:=fun q => w.heap.size < q∧q ≠ w2.heap.size) ?_ (fun q hq => by omega)
         with_reducible (repeat (first | exact HE3.out | apply Kd.F_drewN | refine Kd.F_far ?_ (fun q hq => Nat.ne_of_gt hq.1) _))
        ·with_reducible (repeat (first | exact HQ3.out | apply PS.drewN | refine PS.setB ?_ (by omega) (by omega) _ _))
      ·rw [if_neg k1] at hm
       have b0:(b == 0)=false:=beq_eq_false_iff_ne.mpr k1
       by_cases k2:b < least
       ·rw [if_pos k2] at hm
        have b1:decide (b < least)=true:=decide_eq_true k2
        have HM:=Aside0.mk hm
        clear k1 k2 hm
        go_wp2_with (first | (go_at_call 327;refine (peek_calls HQ.out).mono ?_;rintro e w3 ⟨rfl,hb⟩;rw [HS.out];have hg:=Gr.of_below (g:=g) hb;have BK3:=Aside0.mk (hg.blk BK.out (by omega));have BR3:=Aside0.mk (hg.blk BR.out (by omega));have HE3:=Aside0.mk (hg.F HE.out (fun q hq => by omega));have b3c0:w3.cell? ⟨w2.heap.size,0,none⟩=some (.string e.f0):=(blk_cell BK3.out 0).trans rfl;have b3c1:w3.cell? ⟨w2.heap.size,1,none⟩=some (.int .i64 e.f1.f0):=(blk_cell BK3.out 1).trans rfl;have b3c2:w3.cell? ⟨w2.heap.size,2,none⟩=some (.int .i64 e.f1.f1):=(blk_cell BK3.out 2).trans rfl;have b3c3:w3.cell? ⟨w2.heap.size,3,none⟩=some (.string e.f1.f2):=(blk_cell BK3.out 3).trans rfl;have b3c4:w3.cell? ⟨w2.heap.size,4,none⟩=some (.string e.f2):=(blk_cell BK3.out 4).trans rfl;have b3c5:w3.cell? ⟨w2.heap.size,5,none⟩=some (.slice A e.f3.length n):=(blk_cell BK3.out 5).trans rfl;have r3c0:w3.cell? ⟨w.heap.size,0,none⟩=some (.string ⟨#[]⟩):=(blk_cell BR3.out 0).trans rfl;have r3c1:w3.cell? ⟨w.heap.size,1,none⟩=some (.int .i64 0):=(blk_cell BR3.out 1).trans rfl;have r3c2:w3.cell? ⟨w.heap.size,2,none⟩=some (.int .i64 0):=(blk_cell BR3.out 2).trans rfl;have r3c3:w3.cell? ⟨w.heap.size,3,none⟩=some (.string ⟨#[]⟩):=(blk_cell BR3.out 3).trans rfl;have r3c4:w3.cell? ⟨w.heap.size,4,none⟩=some (.string ⟨#[]⟩):=(blk_cell BR3.out 4).trans rfl;have r3c5:w3.cell? ⟨w.heap.size,5,none⟩=some (.slice none 0 0):=(blk_cell BR3.out 5).trans rfl;have b3z0:=blk_frozen BK3.out 0;have b3z1:=blk_frozen BK3.out 1;have b3z2:=blk_frozen BK3.out 2;have b3z3:=blk_frozen BK3.out 3;have b3z4:=blk_frozen BK3.out 4;have b3z5:=blk_frozen BK3.out 5;have r3z0:=blk_frozen BR3.out 0;have r3z1:=blk_frozen BR3.out 1;have r3z2:=blk_frozen BR3.out 2;have r3z3:=blk_frozen BR3.out 3;have r3z4:=blk_frozen BR3.out 4;have r3z5:=blk_frozen BR3.out 5;have HQ3:=Aside0.mk (HQ.out.below hb);have HG3:=Aside0.mk (HG.out.trans hg);clear hg hb) | (go_at_call 102;refine (parse_binds.calls 3 _ _ _ BI.out).mono ?_;rintro e w4 ⟨rfl,⟨nd,rfl⟩⟩))
        refine bodyPost_ret (v:=.agg (cells43 e A n).toArray) ?_ rfl ?_
        ·simp [results,Tryz.results358,go_sem,cells43,r3c0,r3c1,r3c2,r3c3,r3c4,r3c5,r3z0,r3z1,r3z2,r3z3,r3z4,r3z5]
        ·refine Out.of_some HM.out.symm ?_ ⟨A,n,rfl,HN.out,?_⟩ ?_
         ·with_reducible (repeat (first | exact HG3.out | apply Gr.drewN | refine Gr.setB ?_ (Nat.le_refl _) _ _))
         ·refine Kd.F_mono (ok:=fun q => w.heap.size < q∧q ≠ w2.heap.size) ?_ (fun q hq => by omega)
          with_reducible (repeat (first | exact HE3.out | apply Kd.F_drewN | refine Kd.F_far ?_ (fun q hq => Nat.ne_of_gt hq.1) _))
         ·with_reducible (repeat (first | exact HQ3.out | apply PS.drewN | refine PS.setB ?_ (by omega) (by omega) _ _))
       ·rw [if_neg k2] at hm
        have b1:decide (b < least)=false:=decide_eq_false k2
        clear k1 k2
        have hbr:=binds_range s
        rw [BV.out] at hbr
        have wrapb:wrap64 (b + 1)=b + 1:=by unfold wrap64;omega
        cases hn:Ps.nx tq with
        | none =>
         rw [hn] at hm
         have HM:=Aside0.mk hm
         have HN5:=Aside0.mk hn
         clear hm hn wrapb
         go_wp2_with (first | (go_at_call 327;refine (peek_calls HQ.out).mono ?_;rintro e w3 ⟨rfl,hb⟩;rw [HS.out];have hg:=Gr.of_below (g:=g) hb;have hs3:=hb.size;have BK3:=Aside0.mk (hg.blk BK.out (by omega));have BR3:=Aside0.mk (hg.blk BR.out (by omega));have HE3:=Aside0.mk (hg.F HE.out (fun q hq => by omega));have HQ3:=Aside0.mk (HQ.out.below hb);have HG3:=Aside0.mk (HG.out.trans hg);clear hg hb) | (go_at_call 102;refine (parse_binds.calls 3 _ _ _ BI.out).mono ?_;rintro e w4 ⟨rfl,⟨nd,rfl⟩⟩) | (go_at_call 258;refine (next_out (HQ3.out.drewN _)).mono ?_;intro e w5 ho;obtain ⟨hg,rfl⟩:=ho.none HN5.out;have HG5:=Aside0.mk ((HG3.out.drewN _).trans hg);clear hg ho))
         exact ⟨rfl,Out.of_none HM.out.symm HG5.out⟩
        | some p =>
         obtain ⟨t5,r5⟩:=p
         rw [hn] at hm
         simp only at hm
         have HN5:=Aside0.mk hn
         clear hn
         by_cases k3:s.toList=Ps.sIs.toList
         ·rw [if_pos k3] at hm
          rw [wIs] at k3
          have s0:(s.toList == [105,115])=true:=beq_iff_eq.mpr k3
          have s1:(s.toList != [105,115])=false:=bne_eq_false_iff_eq.mpr k3
          clear k3 wrapb
          cases ht:Ps.tk Ps.sNot r5 with
          | none =>
           rw [ht] at hm
           have HM:=Aside0.mk hm
           have HT:=Aside0.mk ht
           clear hm ht
           go_wp2_with (first | (go_at_call 327;refine (peek_calls HQ.out).mono ?_;rintro e w3 ⟨rfl,hb⟩;rw [HS.out];have hg:=Gr.of_below (g:=g) hb;have hs3:=hb.size;have BK3:=Aside0.mk (hg.blk BK.out (by omega));have BR3:=Aside0.mk (hg.blk BR.out (by omega));have HE3:=Aside0.mk (hg.F HE.out (fun q hq => by omega));have HQ3:=Aside0.mk (HQ.out.below hb);have HG3:=Aside0.mk (HG.out.trans hg);clear hg hb) | (go_at_call 102;refine (parse_binds.calls 3 _ _ _ BI.out).mono ?_;rintro e w4 ⟨rfl,⟨nd,rfl⟩⟩) | (go_at_call 258;refine (next_out (HQ3.out.drewN _)).mono ?_;intro e w5 ho;obtain ⟨hg,v,rfl,rfl,hp⟩:=ho.some HN5.out;have hg3:=((Gr.refl g w3).drewN nd).trans hg;have hs5:=hg3.size;have BK5:=Aside0.mk (hg3.blk BK3.out (by omega));have BR5:=Aside0.mk (hg3.blk BR3.out (by omega));have HE5:=Aside0.mk (hg3.F HE3.out (fun q hq => by omega));have b5c0:w5.cell? ⟨w2.heap.size,0,none⟩=some (.string e.f0):=(blk_cell BK5.out 0).trans rfl;have b5c1:w5.cell? ⟨w2.heap.size,1,none⟩=some (.int .i64 e.f1.f0):=(blk_cell BK5.out 1).trans rfl;have b5c2:w5.cell? ⟨w2.heap.size,2,none⟩=some (.int .i64 e.f1.f1):=(blk_cell BK5.out 2).trans rfl;have b5c3:w5.cell? ⟨w2.heap.size,3,none⟩=some (.string e.f1.f2):=(blk_cell BK5.out 3).trans rfl;have b5c4:w5.cell? ⟨w2.heap.size,4,none⟩=some (.string e.f2):=(blk_cell BK5.out 4).trans rfl;have b5c5:w5.cell? ⟨w2.heap.size,5,none⟩=some (.slice A e.f3.length n):=(blk_cell BK5.out 5).trans rfl;have b5z0:=blk_frozen BK5.out 0;have b5z1:=blk_frozen BK5.out 1;have b5z2:=blk_frozen BK5.out 2;have b5z3:=blk_frozen BK5.out 3;have b5z4:=blk_frozen BK5.out 4;have b5z5:=blk_frozen BK5.out 5;have HQ5:=Aside0.mk hp;have HG5:=Aside0.mk (HG3.out.trans hg3);clear hg hg3 ho hp) | (go_at_call 271;refine (take_out HQ5.out Ps.sNot).mono ?_;intro e w6 ho;obtain ⟨hg,rfl⟩:=ho.none HT.out;have HG6:=Aside0.mk (HG5.out.trans hg);clear hg ho))
           exact ⟨rfl,Out.of_none HM.out.symm HG6.out⟩
          | some p =>
           obtain ⟨no,r6⟩:=p
           rw [ht] at hm
           simp only at hm
           have HT:=Aside0.mk ht
           clear ht
           cases hu:Ps.ms [Ps.sNull] r6 with
           | none =>
            rw [hu] at hm
            have HM:=Aside0.mk hm
            have HU:=Aside0.mk hu
            clear hm hu
            go_wp2_with (first | (go_at_call 327;refine (peek_calls HQ.out).mono ?_;rintro e w3 ⟨rfl,hb⟩;rw [HS.out];have hg:=Gr.of_below (g:=g) hb;have hs3:=hb.size;have BK3:=Aside0.mk (hg.blk BK.out (by omega));have BR3:=Aside0.mk (hg.blk BR.out (by omega));have HE3:=Aside0.mk (hg.F HE.out (fun q hq => by omega));have HQ3:=Aside0.mk (HQ.out.below hb);have HG3:=Aside0.mk (HG.out.trans hg);clear hg hb) | (go_at_call 102;refine (parse_binds.calls 3 _ _ _ BI.out).mono ?_;rintro e w4 ⟨rfl,⟨nd,rfl⟩⟩) | (go_at_call 258;refine (next_out (HQ3.out.drewN _)).mono ?_;intro e w5 ho;obtain ⟨hg,v,rfl,rfl,hp⟩:=ho.some HN5.out;have hg3:=((Gr.refl g w3).drewN nd).trans hg;have hs5:=hg3.size;have BK5:=Aside0.mk (hg3.blk BK3.out (by omega));have BR5:=Aside0.mk (hg3.blk BR3.out (by omega));have HE5:=Aside0.mk (hg3.F HE3.out (fun q hq => by omega));have b5c0:w5.cell? ⟨w2.heap.size,0,none⟩=some (.string e.f0):=(blk_cell BK5.out 0).trans rfl;have b5c1:w5.cell? ⟨w2.heap.size,1,none⟩=some (.int .i64 e.f1.f0):=(blk_cell BK5.out 1).trans rfl;have b5c2:w5.cell? ⟨w2.heap.size,2,none⟩=some (.int .i64 e.f1.f1):=(blk_cell BK5.out 2).trans rfl;have b5c3:w5.cell? ⟨w2.heap.size,3,none⟩=some (.string e.f1.f2):=(blk_cell BK5.out 3).trans rfl;have b5c4:w5.cell? ⟨w2.heap.size,4,none⟩=some (.string e.f2):=(blk_cell BK5.out 4).trans rfl;have b5c5:w5.cell? ⟨w2.heap.size,5,none⟩=some (.slice A e.f3.length n):=(blk_cell BK5.out 5).trans rfl;have b5z0:=blk_frozen BK5.out 0;have b5z1:=blk_frozen BK5.out 1;have b5z2:=blk_frozen BK5.out 2;have b5z3:=blk_frozen BK5.out 3;have b5z4:=blk_frozen BK5.out 4;have b5z5:=blk_frozen BK5.out 5;have HQ5:=Aside0.mk hp;have HG5:=Aside0.mk (HG3.out.trans hg3);clear hg hg3 ho hp) | (go_at_call 271;refine (take_out HQ5.out Ps.sNot).mono ?_;intro e w6 ho;obtain ⟨hg,v,rfl,rfl,hp⟩:=ho.some HT.out;have hs6:=hg.size;have BK6:=Aside0.mk (hg.blk BK5.out (by omega));have BR6:=Aside0.mk (hg.blk BR5.out (by omega));have HE6:=Aside0.mk (hg.F HE5.out (fun q hq => by omega));have HQ6:=Aside0.mk hp;have HG6:=Aside0.mk (HG5.out.trans hg);clear hg ho hp) | (go_at_call 259;refine (must1 HQ6.out rfl Ps.sNull 1).mono ?_;intro e w7 ho;obtain ⟨hg,rfl⟩:=ho.none (msU_none HU.out);have HG7:=Aside0.mk (HG6.out.trans hg);clear hg ho))
            exact ⟨rfl,Out.of_none HM.out.symm HG7.out⟩
           | some r7 =>
            rw [hu] at hm
            simp only at hm
            have HU:=Aside0.mk hu
            clear hu
            go_upto_region 13 with (first | (go_at_call 327;refine (peek_calls HQ.out).mono ?_;rintro e w3 ⟨rfl,hb⟩;rw [HS.out];have hg:=Gr.of_below (g:=g) hb;have hs3:=hb.size;have BK3:=Aside0.mk (hg.blk BK.out (by omega));have BR3:=Aside0.mk (hg.blk BR.out (by omega));have HE3:=Aside0.mk (hg.F HE.out (fun q hq => by omega));have HQ3:=Aside0.mk (HQ.out.below hb);have HG3:=Aside0.mk (HG.out.trans hg);clear hg hb) | (go_at_call 102;refine (parse_binds.calls 3 _ _ _ BI.out).mono ?_;rintro e w4 ⟨rfl,⟨nd,rfl⟩⟩) | (go_at_call 258;refine (next_out (HQ3.out.drewN _)).mono ?_;intro e w5 ho;obtain ⟨hg,v,rfl,rfl,hp⟩:=ho.some HN5.out;have hg3:=((Gr.refl g w3).drewN nd).trans hg;have hs5:=hg3.size;have BK5:=Aside0.mk (hg3.blk BK3.out (by omega));have BR5:=Aside0.mk (hg3.blk BR3.out (by omega));have HE5:=Aside0.mk (hg3.F HE3.out (fun q hq => by omega));have b5c0:w5.cell? ⟨w2.heap.size,0,none⟩=some (.string e.f0):=(blk_cell BK5.out 0).trans rfl;have b5c1:w5.cell? ⟨w2.heap.size,1,none⟩=some (.int .i64 e.f1.f0):=(blk_cell BK5.out 1).trans rfl;have b5c2:w5.cell? ⟨w2.heap.size,2,none⟩=some (.int .i64 e.f1.f1):=(blk_cell BK5.out 2).trans rfl;have b5c3:w5.cell? ⟨w2.heap.size,3,none⟩=some (.string e.f1.f2):=(blk_cell BK5.out 3).trans rfl;have b5c4:w5.cell? ⟨w2.heap.size,4,none⟩=some (.string e.f2):=(blk_cell BK5.out 4).trans rfl;have b5c5:w5.cell? ⟨w2.heap.size,5,none⟩=some (.slice A e.f3.length n):=(blk_cell BK5.out 5).trans rfl;have b5z0:=blk_frozen BK5.out 0;have b5z1:=blk_frozen BK5.out 1;have b5z2:=blk_frozen BK5.out 2;have b5z3:=blk_frozen BK5.out 3;have b5z4:=blk_frozen BK5.out 4;have b5z5:=blk_frozen BK5.out 5;have HQ5:=Aside0.mk hp;have HG5:=Aside0.mk (HG3.out.trans hg3);clear hg hg3 ho hp) | (go_at_call 271;refine (take_out HQ5.out Ps.sNot).mono ?_;intro e w6 ho;obtain ⟨hg,v,rfl,rfl,hp⟩:=ho.some HT.out;have hs6:=hg.size;have BK6:=Aside0.mk (hg.blk BK5.out (by omega));have BR6:=Aside0.mk (hg.blk BR5.out (by omega));have HE6:=Aside0.mk (hg.F HE5.out (fun q hq => by omega));have HQ6:=Aside0.mk hp;have HG6:=Aside0.mk (HG5.out.trans hg);clear hg ho hp) | (go_at_call 259;refine (must1 HQ6.out rfl Ps.sNull 1).mono ?_;intro e9 w7 ho;obtain ⟨hg,v,rfl,rfl,hp⟩:=ho.some (msU_some HU.out);have hs7:=hg.size;have BK7:=Aside0.mk (hg.blk BK6.out (by omega));have BR7:=Aside0.mk (hg.blk BR6.out (by omega));have HE7:=Aside0.mk (hg.F HE6.out (fun q hq => by omega));have b7c0:w7.cell? ⟨w2.heap.size,0,none⟩=some (.string e.f0):=(blk_cell BK7.out 0).trans rfl;have b7c1:w7.cell? ⟨w2.heap.size,1,none⟩=some (.int .i64 e.f1.f0):=(blk_cell BK7.out 1).trans rfl;have b7c2:w7.cell? ⟨w2.heap.size,2,none⟩=some (.int .i64 e.f1.f1):=(blk_cell BK7.out 2).trans rfl;have b7c3:w7.cell? ⟨w2.heap.size,3,none⟩=some (.string e.f1.f2):=(blk_cell BK7.out 3).trans rfl;have b7c4:w7.cell? ⟨w2.heap.size,4,none⟩=some (.string e.f2):=(blk_cell BK7.out 4).trans rfl;have b7c5:w7.cell? ⟨w2.heap.size,5,none⟩=some (.slice A e.f3.length n):=(blk_cell BK7.out 5).trans rfl;have b7z0:=blk_frozen BK7.out 0;have b7z1:=blk_frozen BK7.out 1;have b7z2:=blk_frozen BK7.out 2;have b7z3:=blk_frozen BK7.out 3;have b7z4:=blk_frozen BK7.out 4;have b7z5:=blk_frozen BK7.out 5;have hb7:w2.heap.size < w7.heap.size:=blk_lt BK7.out;have HQ7:=Aside0.mk hp;have HG7:=Aside0.mk (HG6.out.trans hg);clear hg ho hp))
            go_cut [8] (fun v8 wc => ∃ (A1:Option Addr),v8 = .bool no∧Aside0 (wc.heap[w2.heap.size]? = some (.cells (cells43 (Ps.op Ps.sIsnull [e]) A1 1).toArray 43 (0,0)))∧Aside0 (wc.heap[w.heap.size]? = some (.cells #[.string ⟨#[]⟩,.int .i64 0,.int .i64 0,.string ⟨#[]⟩,.string ⟨#[]⟩,.slice none 0 0] 43 (0,0)))∧Aside0 (Kd.F k43 wc (fun q => w.heap.size < q∧q ≠ w2.heap.size) A1 1 [e])∧Aside0 (PS w0 g r7 wc)∧Aside0 (Gr g w wc))
            case first =>
             go_wp2_with (first | (go_at_call 369;refine (op_calls _ _ _ _ _).mono ?_;rintro e8 w8 ⟨rfl,o8,rfl⟩))
             go_meet
             case rel =>
              refine ⟨some ⟨w7.heap.size,0,none⟩,rfl,?_,?_,?_,?_,?_⟩
              ·exact ⟨blk_alloc (blk_alloc (blk_put6 BK7.out) _) _⟩
              ·exact ⟨blk_alloc (blk_alloc (by with_reducible (repeat (first | exact BR7.out | refine blk_setNe ?_ (by omega) _ _))) _) _⟩
              ·refine ⟨F_one (x:=e) (A:=A) (c:=n) (blk_alloc (new_blk _ (by simp)) _) ⟨by omega,by omega⟩ HN.out (Kd.F_alloc (Kd.F_alloc ?_ _) _)⟩
               with_reducible (repeat (first | exact HE7.out | refine Kd.F_far ?_ (fun q hq => hq.2) _))
              ·exact ⟨((by with_reducible (repeat (first | exact HQ7.out | refine PS.setB ?_ (by omega) (by omega) _ _)):PS w0 g r7 _).alloc _).alloc _⟩
              ·exact ⟨((by with_reducible (repeat (first | exact HG7.out | refine Gr.setB ?_ (by omega) _ _)):Gr g w _).alloc _).alloc _⟩
            case rest =>
             obtain ⟨A1,rfl,BK9,BR9,HE9,HQ9,HG9⟩:=hcut
             have hb9:w2.heap.size < wc.heap.size:=blk_lt BK9.out
             cases no with
             | false =>
              simp only [Bool.false_eq_true,if_false] at hm
              have HM:=Aside0.mk hm
              clear hm
              go_wp2
              go_roundg j
              case measure => have:=HL.out;omega
              case rel =>
               exact ⟨Ps.op Ps.sIsnull [e],A1,1,r7,HM,⟨by have:=HL.out;have:=(Ps.nx_len HN5.out).1;have:=(Ps.tk_len HT.out).1;have:=Ps.ms_len HU.out;omega⟩,⟨by have:=HK.out;omega⟩,BK9,BR9,⟨Nat.le_refl _⟩,HE9,HQ9,HG9⟩
             | true =>
              simp only [if_true] at hm
              have HM:=Aside0.mk hm
              clear hm
              have b9c0:wc.cell? ⟨w2.heap.size,0,none⟩=some (.string Ps.sIsnull):=(blk_cell BK9.out 0).trans rfl
              have b9c1:wc.cell? ⟨w2.heap.size,1,none⟩=some (.int .i64 0):=(blk_cell BK9.out 1).trans rfl
              have b9c2:wc.cell? ⟨w2.heap.size,2,none⟩=some (.int .i64 0):=(blk_cell BK9.out 2).trans rfl
              have b9c3:wc.cell? ⟨w2.heap.size,3,none⟩=some (.string ⟨#[]⟩):=(blk_cell BK9.out 3).trans rfl
              have b9c4:wc.cell? ⟨w2.heap.size,4,none⟩=some (.string ⟨#[]⟩):=(blk_cell BK9.out 4).trans rfl
              have b9c5:wc.cell? ⟨w2.heap.size,5,none⟩=some (.slice A1 1 1):=(blk_cell BK9.out 5).trans rfl
              have b9z0:=blk_frozen BK9.out 0
              have b9z1:=blk_frozen BK9.out 1
              have b9z2:=blk_frozen BK9.out 2
              have b9z3:=blk_frozen BK9.out 3
              have b9z4:=blk_frozen BK9.out 4
              have b9z5:=blk_frozen BK9.out 5
              go_wp2_with (first | (go_at_call 369;refine (op_calls _ _ _ _ _).mono ?_;rintro e8 w8 ⟨rfl,o8,rfl⟩))
              go_roundg j
              case measure => have:=HL.out;omega
              case rel =>
               refine ⟨Ps.op Ps.sNot [Ps.op Ps.sIsnull [e]],some ⟨wc.heap.size,0,none⟩,1,r7,HM,⟨by have:=HL.out;have:=(Ps.nx_len HN5.out).1;have:=(Ps.tk_len HT.out).1;have:=Ps.ms_len HU.out;omega⟩,⟨by have:=HK.out;omega⟩,?_,?_,⟨Nat.le_refl _⟩,?_,?_,?_⟩
               ·exact ⟨blk_alloc (blk_alloc (blk_put6 BK9.out) _) _⟩
               ·exact ⟨blk_alloc (blk_alloc (by with_reducible (repeat (first | exact BR9.out | refine blk_setNe ?_ (by omega) _ _))) _) _⟩
               ·refine ⟨F_one (x:=Ps.op Ps.sIsnull [e]) (A:=A1) (c:=1) (blk_alloc (new_blk _ (by simp)) _) ⟨by omega,by omega⟩ (Nat.le_refl _) (Kd.F_alloc (Kd.F_alloc ?_ _) _)⟩
                with_reducible (repeat (refine Kd.F_far ?_ (fun q hq => hq.2) _))
                exact HE9.out
               ·exact ⟨((by with_reducible (repeat (first | exact HQ9.out | refine PS.setB ?_ (by omega) (by omega) _ _)):PS w0 g r7 _).alloc _).alloc _⟩
               ·exact ⟨((by with_reducible (repeat (first | exact HG9.out | refine Gr.setB ?_ (by omega) _ _)):Gr g w _).alloc _).alloc _⟩
         ·rw [if_neg k3] at hm
          rw [wIs] at k3
          have s0:(s.toList == [105,115])=false:=beq_eq_false_iff_ne.mpr k3
          have s1:(s.toList != [105,115])=true:=bne_iff_ne.mpr k3
          clear k3
          have HC:=Aside0.mk (fun wx hx => by rw [wrapb];exact ihE j (by have:=HK.out;omega) w0 g r5 wx (b + 1) hx (by have:=HL.out;have:=(Ps.nx_len HN5.out).1;omega):∀ wx,PS w0 g r5 wx → Calls Tryz.prog 358 #[.pointer (some ⟨g,0,none⟩),.int .i64 (wrap64 (b + 1))] wx (Out w0 g (Vex wx.heap.size) wx (Ps.expr j (b + 1) r5)))
          clear wrapb
          cases hx:Ps.expr j (b + 1) r5 with
          | none =>
           rw [hx] at hm
           have HM:=Aside0.mk hm
           have HX:=Aside0.mk hx
           clear hm hx
           go_wp2_with (first | (go_at_call 327;refine (peek_calls HQ.out).mono ?_;rintro e w3 ⟨rfl,hb⟩;rw [HS.out];have hg:=Gr.of_below (g:=g) hb;have hs3:=hb.size;have BK3:=Aside0.mk (hg.blk BK.out (by omega));have BR3:=Aside0.mk (hg.blk BR.out (by omega));have HE3:=Aside0.mk (hg.F HE.out (fun q hq => by omega));have HQ3:=Aside0.mk (HQ.out.below hb);have HG3:=Aside0.mk (HG.out.trans hg);clear hg hb) | (go_at_call 102;refine (parse_binds.calls 3 _ _ _ BI.out).mono ?_;rintro e w4 ⟨rfl,⟨nd,rfl⟩⟩) | (go_at_call 258;refine (next_out (HQ3.out.drewN _)).mono ?_;intro e w5 ho;obtain ⟨hg,v,rfl,rfl,hp⟩:=ho.some HN5.out;have hg3:=((Gr.refl g w3).drewN nd).trans hg;have hs5:=hg3.size;have BK5:=Aside0.mk (hg3.blk BK3.out (by omega));have BR5:=Aside0.mk (hg3.blk BR3.out (by omega));have HE5:=Aside0.mk (hg3.F HE3.out (fun q hq => by omega));have b5c0:w5.cell? ⟨w2.heap.size,0,none⟩=some (.string e.f0):=(blk_cell BK5.out 0).trans rfl;have b5c1:w5.cell? ⟨w2.heap.size,1,none⟩=some (.int .i64 e.f1.f0):=(blk_cell BK5.out 1).trans rfl;have b5c2:w5.cell? ⟨w2.heap.size,2,none⟩=some (.int .i64 e.f1.f1):=(blk_cell BK5.out 2).trans rfl;have b5c3:w5.cell? ⟨w2.heap.size,3,none⟩=some (.string e.f1.f2):=(blk_cell BK5.out 3).trans rfl;have b5c4:w5.cell? ⟨w2.heap.size,4,none⟩=some (.string e.f2):=(blk_cell BK5.out 4).trans rfl;have b5c5:w5.cell? ⟨w2.heap.size,5,none⟩=some (.slice A e.f3.length n):=(blk_cell BK5.out 5).trans rfl;have b5z0:=blk_frozen BK5.out 0;have b5z1:=blk_frozen BK5.out 1;have b5z2:=blk_frozen BK5.out 2;have b5z3:=blk_frozen BK5.out 3;have b5z4:=blk_frozen BK5.out 4;have b5z5:=blk_frozen BK5.out 5;have HQ5:=Aside0.mk hp;have HG5:=Aside0.mk (HG3.out.trans hg3);clear hg hg3 ho hp))
           refine start_ (n:=9) (S:=fun w' => w'.cell? ⟨w2.heap.size,0,none⟩=some (.string e.f0)∧w'.cell? ⟨w2.heap.size,1,none⟩=some (.int .i64 e.f1.f0)∧w'.cell? ⟨w2.heap.size,2,none⟩=some (.int .i64 e.f1.f1)∧w'.cell? ⟨w2.heap.size,3,none⟩=some (.string e.f1.f2)∧w'.cell? ⟨w2.heap.size,4,none⟩=some (.string e.f2)∧w'.cell? ⟨w2.heap.size,5,none⟩=some (.slice A e.f3.length n)) (ds:=[8]) #[false,false,false,false,false,false,false,false,false] (by kernel_rfl) rfl rfl ⟨b5c0,b5c1,b5c2,b5c3,b5c4,b5c5⟩ (fun hHeld => ?_)
           refine pure_ (i:=0) (N:=some 36) (v:=?_) (a':=?_) #[true,false,false,false,false,false,false,false,false] rfl rfl (by kernel_rfl) (fun _ _ _ h => h) (Or.inl ⟨by rfl,?_⟩) ?_ ?_
           rotate_left
           ·intro w'
            go_simp
            with_reducible rfl
           rotate_left
           ·simp only [Act.put,List.setIfInBounds_toArray,List.set_cons_zero,List.set_cons_succ,i64_w,i32_w]
            rfl
           refine take_ (i:=1) (N:=some 37) (v:=?_) (a':=?_) #[true,true,false,false,false,false,false,false,false] rfl rfl (by kernel_rfl) (fun _ _ _ h => h) (Or.inl ⟨by rfl,?_⟩) hHeld ?_ ?_
           rotate_left
           ·rintro w' ⟨s0,s1,s2,s3,s4,s5⟩
            go_simp
            with_reducible rfl
           rotate_left
           ·simp only [Act.put,List.setIfInBounds_toArray,List.set_cons_zero,List.set_cons_succ,i64_w,i32_w]
            rfl
           refine pure_ (i:=2) (N:=some 38) (v:=?_) (a':=?_) #[true,true,true,false,false,false,false,false,false] rfl rfl (by kernel_rfl) (fun _ _ _ h => h) (Or.inl ⟨by rfl,?_⟩) ?_ ?_
           rotate_left
           ·intro w'
            go_simp
            with_reducible rfl
           rotate_left
           ·simp only [Act.put,List.setIfInBounds_toArray,List.set_cons_zero,List.set_cons_succ,i64_w,i32_w]
            rfl
           refine pure_ (i:=3) (N:=some 39) (v:=?_) (a':=?_) #[true,true,true,true,false,false,false,false,false] rfl rfl (by kernel_rfl) (fun _ _ _ h => h) (Or.inl ⟨by rfl,?_⟩) ?_ ?_
           rotate_left
           ·intro w'
            go_simp
            with_reducible rfl
           rotate_left
           ·simp only [Act.put,List.setIfInBounds_toArray,List.set_cons_zero,List.set_cons_succ,i64_w,i32_w]
            rfl
           refine pure_ (i:=4) (N:=some 40) (v:=?_) (a':=?_) #[true,true,true,true,true,false,false,false,false] rfl rfl (by kernel_rfl) (fun _ _ _ h => h) (Or.inl ⟨by rfl,?_⟩) ?_ ?_
           rotate_left
           ·intro w'
            go_simp
            with_reducible rfl
           rotate_left
           ·simp only [Act.put,List.setIfInBounds_toArray,List.set_cons_zero,List.set_cons_succ,i64_w,i32_w]
            rfl
           refine one_ (i:=5) (N:=some 41) #[true,true,true,true,true,true,false,false,false] rfl rfl (by kernel_rfl) (by decide) (fun K hK => ?_)
           refine goesP_ Tryz.func358 (by kernel_rfl) rfl #[.pointer (some ⟨g,0,none⟩),.int .i64 (wrap64 (b + 1))] (by rfl) rfl (by (try simp only [List.map_toArray,List.map_cons,List.map_nil]);first | done | rfl) (ch:=failedV) ?_
           refine (HC.out w5.drew (HQ5.out.below (below_drew1 (Below.refl _ _)))).mono ?_
           intro e w7 ho
           obtain ⟨hg,rfl⟩:=ho.none HX.out
           exact ⟨rfl,⟨rfl,Out.of_none HM.out.symm ((HG5.out.step (below_drew1 (Below.refl _ _))).trans hg)⟩⟩
          | some p =>
           obtain ⟨x,r6⟩:=p
           rw [hx] at hm
           have HM:=Aside0.mk hm
           have HX:=Aside0.mk hx
           clear hm hx
           go_wp2_with (first | (go_at_call 327;refine (peek_calls HQ.out).mono ?_;rintro e w3 ⟨rfl,hb⟩;rw [HS.out];have hg:=Gr.of_below (g:=g) hb;have hs3:=hb.size;have BK3:=Aside0.mk (hg.blk BK.out (by omega));have BR3:=Aside0.mk (hg.blk BR.out (by omega));have HE3:=Aside0.mk (hg.F HE.out (fun q hq => by omega));have HQ3:=Aside0.mk (HQ.out.below hb);have HG3:=Aside0.mk (HG.out.trans hg);clear hg hb) | (go_at_call 102;refine (parse_binds.calls 3 _ _ _ BI.out).mono ?_;rintro e w4 ⟨rfl,⟨nd,rfl⟩⟩) | (go_at_call 258;refine (next_out (HQ3.out.drewN _)).mono ?_;intro e w5 ho;obtain ⟨hg,v,rfl,rfl,hp⟩:=ho.some HN5.out;have hg3:=((Gr.refl g w3).drewN nd).trans hg;have hs5:=hg3.size;have BK5:=Aside0.mk (hg3.blk BK3.out (by omega));have BR5:=Aside0.mk (hg3.blk BR3.out (by omega));have HE5:=Aside0.mk (hg3.F HE3.out (fun q hq => by omega));have b5c0:w5.cell? ⟨w2.heap.size,0,none⟩=some (.string e.f0):=(blk_cell BK5.out 0).trans rfl;have b5c1:w5.cell? ⟨w2.heap.size,1,none⟩=some (.int .i64 e.f1.f0):=(blk_cell BK5.out 1).trans rfl;have b5c2:w5.cell? ⟨w2.heap.size,2,none⟩=some (.int .i64 e.f1.f1):=(blk_cell BK5.out 2).trans rfl;have b5c3:w5.cell? ⟨w2.heap.size,3,none⟩=some (.string e.f1.f2):=(blk_cell BK5.out 3).trans rfl;have b5c4:w5.cell? ⟨w2.heap.size,4,none⟩=some (.string e.f2):=(blk_cell BK5.out 4).trans rfl;have b5c5:w5.cell? ⟨w2.heap.size,5,none⟩=some (.slice A e.f3.length n):=(blk_cell BK5.out 5).trans rfl;have b5z0:=blk_frozen BK5.out 0;have b5z1:=blk_frozen BK5.out 1;have b5z2:=blk_frozen BK5.out 2;have b5z3:=blk_frozen BK5.out 3;have b5z4:=blk_frozen BK5.out 4;have b5z5:=blk_frozen BK5.out 5;have HQ5:=Aside0.mk hp;have HG5:=Aside0.mk (HG3.out.trans hg3);clear hg hg3 ho hp))
           refine start_ (n:=9) (S:=fun w' => w'.cell? ⟨w2.heap.size,0,none⟩=some (.string e.f0)∧w'.cell? ⟨w2.heap.size,1,none⟩=some (.int .i64 e.f1.f0)∧w'.cell? ⟨w2.heap.size,2,none⟩=some (.int .i64 e.f1.f1)∧w'.cell? ⟨w2.heap.size,3,none⟩=some (.string e.f1.f2)∧w'.cell? ⟨w2.heap.size,4,none⟩=some (.string e.f2)∧w'.cell? ⟨w2.heap.size,5,none⟩=some (.slice A e.f3.length n)) (ds:=[8]) #[false,false,false,false,false,false,false,false,false] (by kernel_rfl) rfl rfl ⟨b5c0,b5c1,b5c2,b5c3,b5c4,b5c5⟩ (fun hHeld => ?_)
           refine pure_ (i:=0) (N:=some 36) (v:=?_) (a':=?_) #[true,false,false,false,false,false,false,false,false] rfl rfl (by kernel_rfl) (fun _ _ _ h => h) (Or.inl ⟨by rfl,?_⟩) ?_ ?_
           rotate_left
           ·intro w'
            go_simp
            with_reducible rfl
           rotate_left
           ·simp only [Act.put,List.setIfInBounds_toArray,List.set_cons_zero,List.set_cons_succ,i64_w,i32_w]
            rfl
           refine take_ (i:=1) (N:=some 37) (v:=?_) (a':=?_) #[true,true,false,false,false,false,false,false,false] rfl rfl (by kernel_rfl) (fun _ _ _ h => h) (Or.inl ⟨by rfl,?_⟩) hHeld ?_ ?_
           rotate_left
           ·rintro w' ⟨s0,s1,s2,s3,s4,s5⟩
            go_simp
            with_reducible rfl
           rotate_left
           ·simp only [Act.put,List.setIfInBounds_toArray,List.set_cons_zero,List.set_cons_succ,i64_w,i32_w]
            rfl
           refine pure_ (i:=2) (N:=some 38) (v:=?_) (a':=?_) #[true,true,true,false,false,false,false,false,false] rfl rfl (by kernel_rfl) (fun _ _ _ h => h) (Or.inl ⟨by rfl,?_⟩) ?_ ?_
           rotate_left
           ·intro w'
            go_simp
            with_reducible rfl
           rotate_left
           ·simp only [Act.put,List.setIfInBounds_toArray,List.set_cons_zero,List.set_cons_succ,i64_w,i32_w]
            rfl
           refine pure_ (i:=3) (N:=some 39) (v:=?_) (a':=?_) #[true,true,true,true,false,false,false,false,false] rfl rfl (by kernel_rfl) (fun _ _ _ h => h) (Or.inl ⟨by rfl,?_⟩) ?_ ?_
           rotate_left
           ·intro w'
            go_simp
            with_reducible rfl
           rotate_left
           ·simp only [Act.put,List.setIfInBounds_toArray,List.set_cons_zero,List.set_cons_succ,i64_w,i32_w]
            rfl
           refine pure_ (i:=4) (N:=some 40) (v:=?_) (a':=?_) #[true,true,true,true,true,false,false,false,false] rfl rfl (by kernel_rfl) (fun _ _ _ h => h) (Or.inl ⟨by rfl,?_⟩) ?_ ?_
           rotate_left
           ·intro w'
            go_simp
            with_reducible rfl
           rotate_left
           ·simp only [Act.put,List.setIfInBounds_toArray,List.set_cons_zero,List.set_cons_succ,i64_w,i32_w]
            rfl
           refine one_ (i:=5) (N:=some 41) #[true,true,true,true,true,true,false,false,false] rfl rfl (by kernel_rfl) (by decide) (fun K hK => ?_)
           refine goes_ Tryz.func358 (by kernel_rfl) rfl #[.pointer (some ⟨g,0,none⟩),.int .i64 (wrap64 (b + 1))] (by rfl) rfl rfl (by (try simp only [List.map_toArray,List.map_cons,List.map_nil]);first | done | rfl) ?_
           refine (HC.out w5.drew (HQ5.out.below (below_drew1 (Below.refl _ _)))).mono ?_
           intro e7 w7 ho
           obtain ⟨hg,v,rfl,hv,hp⟩:=ho.some HX.out
           obtain ⟨Ax,nx,rfl,hnx,hfx⟩:=hv
           refine ⟨_,rfl,?_⟩
           have hg5:=((Gr.refl g w5).step (below_drew1 (Below.refl _ _))).trans hg
           have hs7:=hg5.size
           have BK7:=Aside0.mk (hg5.blk BK5.out (by omega))
           have BR7:=Aside0.mk (hg5.blk BR5.out (by omega))
           have HE7:=Aside0.mk (hg5.F HE5.out (fun q hq => by omega))
           have b7c0:w7.cell? ⟨w2.heap.size,0,none⟩=some (.string e.f0):=(blk_cell BK7.out 0).trans rfl
           have b7c1:w7.cell? ⟨w2.heap.size,1,none⟩=some (.int .i64 e.f1.f0):=(blk_cell BK7.out 1).trans rfl
           have b7c2:w7.cell? ⟨w2.heap.size,2,none⟩=some (.int .i64 e.f1.f1):=(blk_cell BK7.out 2).trans rfl
           have b7c3:w7.cell? ⟨w2.heap.size,3,none⟩=some (.string e.f1.f2):=(blk_cell BK7.out 3).trans rfl
           have b7c4:w7.cell? ⟨w2.heap.size,4,none⟩=some (.string e.f2):=(blk_cell BK7.out 4).trans rfl
           have b7c5:w7.cell? ⟨w2.heap.size,5,none⟩=some (.slice A e.f3.length n):=(blk_cell BK7.out 5).trans rfl
           have b7z0:=blk_frozen BK7.out 0
           have b7z1:=blk_frozen BK7.out 1
           have b7z2:=blk_frozen BK7.out 2
           have b7z3:=blk_frozen BK7.out 3
           have b7z4:=blk_frozen BK7.out 4
           have b7z5:=blk_frozen BK7.out 5
           have HQ7:=Aside0.mk hp
           have HG7:=Aside0.mk (HG5.out.trans hg5)
           have HNX:=Aside0.mk hnx
           have HFX:=Aside0.mk (Kd.F_mono hfx (ok':=fun q => w.heap.size < q∧q ≠ w2.heap.size) (fun q hq => by have h1:w5.heap.size ≤ q:=hq;exact ⟨by omega,by omega⟩))
           clear hg hg5 ho hp hnx hfx
           refine hK.out _ _ ⟨b7c0,b7c1,b7c2,b7c3,b7c4,b7c5⟩ (fun hHeld => ?_)
           clear hK K
           refine norm_ (a':=?_) ?_ ?_
           rotate_left
           ·show Act.put _ (some 41) _=_
            simp only [Act.put,List.setIfInBounds_toArray,List.set_cons_zero,List.set_cons_succ,i64_w,i32_w]
            rfl
           refine one_ (i:=6) (N:=some 42) #[true,true,true,true,true,true,true,false,false] rfl rfl (by kernel_rfl) (by decide) (fun K hK => ?_)
           refine value_ (v:=.slice (some ⟨w7.heap.size,0,none⟩) 2 2) (w1:=w7.alloc (.cells (cells43 e A n ++ cells43 x Ax nx).toArray 43)) (by rfl) rfl ?_ ?_
           ·unfold cells43
            go_simp
           refine hK.out _ _ ⟨blkc_alloc BK7.out 0 rfl,blkc_alloc BK7.out 1 rfl,blkc_alloc BK7.out 2 rfl,blkc_alloc BK7.out 3 rfl,blkc_alloc BK7.out 4 rfl,blkc_alloc BK7.out 5 rfl⟩ (fun hHeld => ?_)
           clear hK K
           refine norm_ (a':=?_) ?_ ?_
           rotate_left
           ·show Act.put _ (some 42) _=_
            simp only [Act.put,List.setIfInBounds_toArray,List.set_cons_zero,List.set_cons_succ,i64_w,i32_w]
            rfl
           refine one_ (i:=7) (N:=some 43) #[true,true,true,true,true,true,true,true,false] rfl rfl (by kernel_rfl) (by decide) (fun K hK => ?_)
           refine goes_ Tryz.func369 (by kernel_rfl) rfl #[.string s,.slice (some ⟨w7.heap.size,0,none⟩) 2 2] (by rfl) rfl rfl (by (try simp only [List.map_toArray,List.map_cons,List.map_nil]);first | done | rfl) ?_
           refine (op_calls _ _ _ _ _).mono ?_
           rintro e8 w8 ⟨rfl,o8,rfl⟩
           refine ⟨_,rfl,?_⟩
           refine hK.out _ _ ⟨blkc_alloc (blk_alloc BK7.out _) 0 rfl,blkc_alloc (blk_alloc BK7.out _) 1 rfl,blkc_alloc (blk_alloc BK7.out _) 2 rfl,blkc_alloc (blk_alloc BK7.out _) 3 rfl,blkc_alloc (blk_alloc BK7.out _) 4 rfl,blkc_alloc (blk_alloc BK7.out _) 5 rfl⟩ (fun hHeld => ?_)
           clear hK K
           refine norm_ (a':=?_) ?_ ?_
           rotate_left
           ·show Act.put _ (some 43) _=_
            simp only [Act.put,List.setIfInBounds_toArray,List.set_cons_zero,List.set_cons_succ,i64_w,i32_w]
            rfl
           refine last_ (i:=8) (N:=none) #[true,true,true,true,true,true,true,true,true] rfl rfl (by kernel_rfl) (by decide) (fun K hK => ?_)
           have hb7:w2.heap.size < w7.heap.size:=blk_lt BK7.out
           refine skip_ (w1:=((((((((w7.alloc (.cells (cells43 e A n ++ cells43 x Ax nx).toArray 43)).alloc o8).setCell ⟨w2.heap.size,0,none⟩ (.string s)).setCell ⟨w2.heap.size,1,none⟩ (.int .i64 0)).setCell ⟨w2.heap.size,2,none⟩ (.int .i64 0)).setCell ⟨w2.heap.size,3,none⟩ (.string ⟨#[]⟩)).setCell ⟨w2.heap.size,4,none⟩ (.string ⟨#[]⟩)).setCell ⟨w2.heap.size,5,none⟩ (.slice (some ⟨w7.heap.size,0,none⟩) 2 2))) (by rfl) rfl ?_ ?_
           ·unfold cells43
            go_simp
           refine hK.out _ _ ?_
           clear hK K
           refine done_ (by kernel_rfl) ?_
           go_wp2
           go_roundg j
           case measure => have:=HL.out;omega
           case rel =>
            refine ⟨Ps.op s [e,x],some ⟨w7.heap.size,0,none⟩,2,r6,HM,⟨by have:=HL.out;have:=(Ps.nx_len HN5.out).1;have:=Ps.expr_len HX.out;omega⟩,⟨by have:=HK.out;omega⟩,⟨blk_put6 (blk_alloc (blk_alloc BK7.out _) _)⟩,?_,⟨Nat.le_refl _⟩,?_,?_,?_⟩
            ·exact ⟨by with_reducible (repeat (first | exact blk_alloc (blk_alloc BR7.out _) _ | refine blk_setNe ?_ (by omega) _ _))⟩
            ·refine ⟨F_two (x:=e) (y:=x) (A:=A) (c:=n) (A':=Ax) (c':=nx) ?_ ⟨by omega,by omega⟩ HN.out ?_ HNX.out ?_⟩
             ·with_reducible (repeat (first | exact blk_alloc (new_blk _ rfl) _ | refine blk_setNe ?_ (by omega) _ _))
             ·with_reducible (repeat (first | exact Kd.F_alloc (Kd.F_alloc HE7.out _) _ | refine Kd.F_far ?_ (fun q hq => hq.2) _))
             ·with_reducible (repeat (first | exact Kd.F_alloc (Kd.F_alloc HFX.out _) _ | refine Kd.F_far ?_ (fun q hq => hq.2) _))
            ·exact ⟨by with_reducible (repeat (first | exact (HQ7.out.alloc _).alloc _ | refine PS.setB ?_ (by omega) (by omega) _ _))⟩
            ·exact ⟨by with_reducible (repeat (first | exact (HG7.out.alloc _).alloc _ | refine Gr.setB ?_ (by omega) _ _))⟩
end Go.Proofs.YtcgdncpioafbdaaGreatDoor.Q
namespace Go.Proofs.YtcgdncpioafbdaaGreatDoor.Q
open Go Go.RowKit Go.Proofs.YtcgdncpioafbdaaGreatDoorW.PrintWords
set_option maxHeartbeats 4000000 in
set_option maxRecDepth 100000 in
theorem first_step (k:Nat) (ihE:ExprAt k):FirstAt (k + 1):=by
 intro w0 g ts w hps hk
 have HP:=Aside0.mk hps
 clear hps
 have hlt:=HP.out.lt
 have hlow:=HP.out.low
 cases hn:Ps.nx ts with
 | none =>
  have HN:=Aside0.mk hn
  have HM:=Aside0.mk (show Ps.first (k + 1) ts=none by simp only [Ps.first];rw [hn])
  clear hn
  go_enter Tryz.func368,Tryz.ntmps368
  go_wp2_with (first | (go_at_call 258;refine (next_out (HP.out.alloc _)).mono ?_;intro e w1 ho;obtain ⟨hg,rfl⟩:=ho.none HN.out;have HG1:=Aside0.mk (((Gr.refl g w).alloc _).trans hg);clear hg ho))
  exact ⟨rfl,Out.of_none HM.out HG1.out⟩
 | some p =>
  obtain ⟨t,r⟩:=p
  have HN:=Aside0.mk hn
  obtain ⟨R,hR⟩:∃ R,Ps.first (k + 1) ts=R:=⟨_,rfl⟩
  have hm:=hR
  simp only [Ps.first] at hm
  rw [hn] at hm
  simp only at hm
  rw [← hR] at hm
  replace hm:=hm.symm
  clear hR hn
  by_cases k2:t.f0=2
  ·rw [if_pos k2] at hm
   have b2:(t.f0 == 2)=true:=beq_iff_eq.mpr k2
   clear k2
   have HM:=Aside0.mk hm
   clear hm
   go_enter Tryz.func368,Tryz.ntmps368
   go_wp2_with (first | (go_at_call 258;refine (next_out (HP.out.alloc _)).mono ?_;intro e w1 ho;obtain ⟨hg,v,rfl,rfl,hp⟩:=ho.some HN.out;have BR1:=Aside0.mk (hg.blk (new_blk (W:=w) _ rfl) (by omega));have hs1:w.heap.size < w1.heap.size:=blk_lt BR1.out;have r1c0:w1.cell? ⟨w.heap.size,0,none⟩=some (.string ⟨#[]⟩):=(blk_cell BR1.out 0).trans rfl;have r1c1:w1.cell? ⟨w.heap.size,1,none⟩=some (.int .i64 0):=(blk_cell BR1.out 1).trans rfl;have r1c2:w1.cell? ⟨w.heap.size,2,none⟩=some (.int .i64 0):=(blk_cell BR1.out 2).trans rfl;have r1c3:w1.cell? ⟨w.heap.size,3,none⟩=some (.string ⟨#[]⟩):=(blk_cell BR1.out 3).trans rfl;have r1c4:w1.cell? ⟨w.heap.size,4,none⟩=some (.string ⟨#[]⟩):=(blk_cell BR1.out 4).trans rfl;have r1c5:w1.cell? ⟨w.heap.size,5,none⟩=some (.slice none 0 0):=(blk_cell BR1.out 5).trans rfl;have r1z0:=blk_frozen BR1.out 0;have r1z1:=blk_frozen BR1.out 1;have r1z2:=blk_frozen BR1.out 2;have r1z3:=blk_frozen BR1.out 3;have r1z4:=blk_frozen BR1.out 4;have r1z5:=blk_frozen BR1.out 5;have HQ1:=Aside0.mk hp;have HG1:=Aside0.mk (((Gr.refl g w).alloc _).trans hg);clear hg ho hp) | (go_at_call 370;refine (val_below _ _ _ _).mono ?_;rintro e8 w8 ⟨rfl,hb⟩;have hg:=Gr.of_below (g:=g) hb;have BR8:=Aside0.mk (hg.blk (blk_alloc BR1.out _) (by omega));have hs8:w.heap.size < w8.heap.size:=blk_lt BR8.out;have r8c0:w8.cell? ⟨w.heap.size,0,none⟩=some (.string ⟨#[]⟩):=(blk_cell BR8.out 0).trans rfl;have r8c1:w8.cell? ⟨w.heap.size,1,none⟩=some (.int .i64 0):=(blk_cell BR8.out 1).trans rfl;have r8c2:w8.cell? ⟨w.heap.size,2,none⟩=some (.int .i64 0):=(blk_cell BR8.out 2).trans rfl;have r8c3:w8.cell? ⟨w.heap.size,3,none⟩=some (.string ⟨#[]⟩):=(blk_cell BR8.out 3).trans rfl;have r8c4:w8.cell? ⟨w.heap.size,4,none⟩=some (.string ⟨#[]⟩):=(blk_cell BR8.out 4).trans rfl;have r8c5:w8.cell? ⟨w.heap.size,5,none⟩=some (.slice none 0 0):=(blk_cell BR8.out 5).trans rfl;have r8z0:=blk_frozen BR8.out 0;have r8z1:=blk_frozen BR8.out 1;have r8z2:=blk_frozen BR8.out 2;have r8z3:=blk_frozen BR8.out 3;have r8z4:=blk_frozen BR8.out 4;have r8z5:=blk_frozen BR8.out 5;have HQ8:=Aside0.mk ((HQ1.out.alloc _).below hb);have HG8:=Aside0.mk ((HG1.out.alloc _).trans hg);clear hg hb))
   refine bodyPost_ret (v:=.agg (cells43 (Ps.val ⟨1,t.f2,⟨#[]⟩⟩) (none) 0).toArray) ?_ rfl ?_
   ·simp [results,Tryz.results368,go_sem,cells43,r8c0,r8z0,r8c1,r8z1,r8c2,r8z2,r8c3,r8z3,r8c4,r8z4,r8c5,r8z5,hs8,Ps.val] <;> exact ⟨rfl,rfl,rfl,rfl,rfl,rfl⟩
   ·refine Out.of_some HM.out ?_ ⟨none,0,rfl,Nat.le_refl _,?_⟩ ?_
    ·with_reducible (repeat (first | exact HG8.out | refine Gr.setB ?_ (Nat.le_refl _) _ _ | apply Gr.alloc | apply Gr.drewN))
    ·exact Kd.F_nil _ _ _
    ·with_reducible (repeat (first | exact HQ8.out | refine PS.setB ?_ (by omega) (by omega) _ _ | apply PS.alloc | apply PS.drewN))
  ·rw [if_neg k2] at hm
   have b2:(t.f0 == 2)=false:=beq_eq_false_iff_ne.mpr k2
   clear k2
   by_cases k3:t.f0=3
   ·rw [if_pos k3] at hm
    have b3:(t.f0 == 3)=true:=beq_iff_eq.mpr k3
    clear k3
    have HM:=Aside0.mk hm
    clear hm
    go_enter Tryz.func368,Tryz.ntmps368
    go_wp2_with (first | (go_at_call 258;refine (next_out (HP.out.alloc _)).mono ?_;intro e w1 ho;obtain ⟨hg,v,rfl,rfl,hp⟩:=ho.some HN.out;have BR1:=Aside0.mk (hg.blk (new_blk (W:=w) _ rfl) (by omega));have hs1:w.heap.size < w1.heap.size:=blk_lt BR1.out;have r1c0:w1.cell? ⟨w.heap.size,0,none⟩=some (.string ⟨#[]⟩):=(blk_cell BR1.out 0).trans rfl;have r1c1:w1.cell? ⟨w.heap.size,1,none⟩=some (.int .i64 0):=(blk_cell BR1.out 1).trans rfl;have r1c2:w1.cell? ⟨w.heap.size,2,none⟩=some (.int .i64 0):=(blk_cell BR1.out 2).trans rfl;have r1c3:w1.cell? ⟨w.heap.size,3,none⟩=some (.string ⟨#[]⟩):=(blk_cell BR1.out 3).trans rfl;have r1c4:w1.cell? ⟨w.heap.size,4,none⟩=some (.string ⟨#[]⟩):=(blk_cell BR1.out 4).trans rfl;have r1c5:w1.cell? ⟨w.heap.size,5,none⟩=some (.slice none 0 0):=(blk_cell BR1.out 5).trans rfl;have r1z0:=blk_frozen BR1.out 0;have r1z1:=blk_frozen BR1.out 1;have r1z2:=blk_frozen BR1.out 2;have r1z3:=blk_frozen BR1.out 3;have r1z4:=blk_frozen BR1.out 4;have r1z5:=blk_frozen BR1.out 5;have HQ1:=Aside0.mk hp;have HG1:=Aside0.mk (((Gr.refl g w).alloc _).trans hg);clear hg ho hp) | (go_at_call 370;refine (val_below _ _ _ _).mono ?_;rintro e8 w8 ⟨rfl,hb⟩;have hg:=Gr.of_below (g:=g) hb;have BR8:=Aside0.mk (hg.blk (blk_alloc BR1.out _) (by omega));have hs8:w.heap.size < w8.heap.size:=blk_lt BR8.out;have r8c0:w8.cell? ⟨w.heap.size,0,none⟩=some (.string ⟨#[]⟩):=(blk_cell BR8.out 0).trans rfl;have r8c1:w8.cell? ⟨w.heap.size,1,none⟩=some (.int .i64 0):=(blk_cell BR8.out 1).trans rfl;have r8c2:w8.cell? ⟨w.heap.size,2,none⟩=some (.int .i64 0):=(blk_cell BR8.out 2).trans rfl;have r8c3:w8.cell? ⟨w.heap.size,3,none⟩=some (.string ⟨#[]⟩):=(blk_cell BR8.out 3).trans rfl;have r8c4:w8.cell? ⟨w.heap.size,4,none⟩=some (.string ⟨#[]⟩):=(blk_cell BR8.out 4).trans rfl;have r8c5:w8.cell? ⟨w.heap.size,5,none⟩=some (.slice none 0 0):=(blk_cell BR8.out 5).trans rfl;have r8z0:=blk_frozen BR8.out 0;have r8z1:=blk_frozen BR8.out 1;have r8z2:=blk_frozen BR8.out 2;have r8z3:=blk_frozen BR8.out 3;have r8z4:=blk_frozen BR8.out 4;have r8z5:=blk_frozen BR8.out 5;have HQ8:=Aside0.mk ((HQ1.out.alloc _).below hb);have HG8:=Aside0.mk ((HG1.out.alloc _).trans hg);clear hg hb))
    refine bodyPost_ret (v:=.agg (cells43 (Ps.val ⟨2,0,t.f1⟩) (none) 0).toArray) ?_ rfl ?_
    ·simp [results,Tryz.results368,go_sem,cells43,r8c0,r8z0,r8c1,r8z1,r8c2,r8z2,r8c3,r8z3,r8c4,r8z4,r8c5,r8z5,hs8,Ps.val] <;> exact ⟨rfl,rfl,rfl,rfl,rfl,rfl⟩
    ·refine Out.of_some HM.out ?_ ⟨none,0,rfl,Nat.le_refl _,?_⟩ ?_
     ·with_reducible (repeat (first | exact HG8.out | refine Gr.setB ?_ (Nat.le_refl _) _ _ | apply Gr.alloc | apply Gr.drewN))
     ·exact Kd.F_nil _ _ _
     ·with_reducible (repeat (first | exact HQ8.out | refine PS.setB ?_ (by omega) (by omega) _ _ | apply PS.alloc | apply PS.drewN))
   ·rw [if_neg k3] at hm
    have b3:(t.f0 == 3)=false:=beq_eq_false_iff_ne.mpr k3
    clear k3
    by_cases m0:t.f1.toList=Ps.sNot.toList
    ·rw [if_pos m0] at hm
     rw [wNot] at m0
     have q0:(t.f1.toList == [110,111,116])=true:=beq_iff_eq.mpr m0
     clear m0
     cases hx:Ps.expr k 3 r with
     | none =>
      rw [hx] at hm
      have HX:=Aside0.mk hx
      clear hx
      have HM:=Aside0.mk hm
      clear hm
      go_enter Tryz.func368,Tryz.ntmps368
      go_wp2_with (first | (go_at_call 258;refine (next_out (HP.out.alloc _)).mono ?_;intro e w1 ho;obtain ⟨hg,v,rfl,rfl,hp⟩:=ho.some HN.out;have BR1:=Aside0.mk (hg.blk (new_blk (W:=w) _ rfl) (by omega));have hs1:w.heap.size < w1.heap.size:=blk_lt BR1.out;have r1c0:w1.cell? ⟨w.heap.size,0,none⟩=some (.string ⟨#[]⟩):=(blk_cell BR1.out 0).trans rfl;have r1c1:w1.cell? ⟨w.heap.size,1,none⟩=some (.int .i64 0):=(blk_cell BR1.out 1).trans rfl;have r1c2:w1.cell? ⟨w.heap.size,2,none⟩=some (.int .i64 0):=(blk_cell BR1.out 2).trans rfl;have r1c3:w1.cell? ⟨w.heap.size,3,none⟩=some (.string ⟨#[]⟩):=(blk_cell BR1.out 3).trans rfl;have r1c4:w1.cell? ⟨w.heap.size,4,none⟩=some (.string ⟨#[]⟩):=(blk_cell BR1.out 4).trans rfl;have r1c5:w1.cell? ⟨w.heap.size,5,none⟩=some (.slice none 0 0):=(blk_cell BR1.out 5).trans rfl;have r1z0:=blk_frozen BR1.out 0;have r1z1:=blk_frozen BR1.out 1;have r1z2:=blk_frozen BR1.out 2;have r1z3:=blk_frozen BR1.out 3;have r1z4:=blk_frozen BR1.out 4;have r1z5:=blk_frozen BR1.out 5;have HQ1:=Aside0.mk hp;have HG1:=Aside0.mk (((Gr.refl g w).alloc _).trans hg);clear hg ho hp) | (go_at_call 358;refine (ihE w0 g r _ 3 (HQ1.out.alloc _) (by have:=(Ps.nx_len HN.out).1;omega)).mono ?_;intro e w2 ho;obtain ⟨hg,rfl⟩:=ho.none HX.out;have HG2:=Aside0.mk ((HG1.out.alloc _).trans hg);clear hg ho))
      exact ⟨rfl,Out.of_none HM.out HG2.out⟩
     | some p =>
      obtain ⟨e,r1⟩:=p
      rw [hx] at hm
      have HX:=Aside0.mk hx
      clear hx
      have HM:=Aside0.mk hm
      clear hm
      go_enter Tryz.func368,Tryz.ntmps368
      go_wp2_with (first | (go_at_call 258;refine (next_out (HP.out.alloc _)).mono ?_;intro e w1 ho;obtain ⟨hg,v,rfl,rfl,hp⟩:=ho.some HN.out;have BR1:=Aside0.mk (hg.blk (new_blk (W:=w) _ rfl) (by omega));have hs1:w.heap.size < w1.heap.size:=blk_lt BR1.out;have r1c0:w1.cell? ⟨w.heap.size,0,none⟩=some (.string ⟨#[]⟩):=(blk_cell BR1.out 0).trans rfl;have r1c1:w1.cell? ⟨w.heap.size,1,none⟩=some (.int .i64 0):=(blk_cell BR1.out 1).trans rfl;have r1c2:w1.cell? ⟨w.heap.size,2,none⟩=some (.int .i64 0):=(blk_cell BR1.out 2).trans rfl;have r1c3:w1.cell? ⟨w.heap.size,3,none⟩=some (.string ⟨#[]⟩):=(blk_cell BR1.out 3).trans rfl;have r1c4:w1.cell? ⟨w.heap.size,4,none⟩=some (.string ⟨#[]⟩):=(blk_cell BR1.out 4).trans rfl;have r1c5:w1.cell? ⟨w.heap.size,5,none⟩=some (.slice none 0 0):=(blk_cell BR1.out 5).trans rfl;have r1z0:=blk_frozen BR1.out 0;have r1z1:=blk_frozen BR1.out 1;have r1z2:=blk_frozen BR1.out 2;have r1z3:=blk_frozen BR1.out 3;have r1z4:=blk_frozen BR1.out 4;have r1z5:=blk_frozen BR1.out 5;have HQ1:=Aside0.mk hp;have HG1:=Aside0.mk (((Gr.refl g w).alloc _).trans hg);clear hg ho hp) | (go_at_call 358;refine (ihE w0 g r _ 3 (HQ1.out.alloc _) (by have:=(Ps.nx_len HN.out).1;omega)).mono ?_;intro e9 w2 ho;obtain ⟨hg,v,rfl,hv,hp⟩:=ho.some HX.out;obtain ⟨Ax,nx,rfl,hnx,hfx⟩:=hv;have BR2:=Aside0.mk (hg.blk (blk_alloc BR1.out _) (by omega));have hs2:w.heap.size < w2.heap.size:=blk_lt BR2.out;have r2c0:w2.cell? ⟨w.heap.size,0,none⟩=some (.string ⟨#[]⟩):=(blk_cell BR2.out 0).trans rfl;have r2c1:w2.cell? ⟨w.heap.size,1,none⟩=some (.int .i64 0):=(blk_cell BR2.out 1).trans rfl;have r2c2:w2.cell? ⟨w.heap.size,2,none⟩=some (.int .i64 0):=(blk_cell BR2.out 2).trans rfl;have r2c3:w2.cell? ⟨w.heap.size,3,none⟩=some (.string ⟨#[]⟩):=(blk_cell BR2.out 3).trans rfl;have r2c4:w2.cell? ⟨w.heap.size,4,none⟩=some (.string ⟨#[]⟩):=(blk_cell BR2.out 4).trans rfl;have r2c5:w2.cell? ⟨w.heap.size,5,none⟩=some (.slice none 0 0):=(blk_cell BR2.out 5).trans rfl;have r2z0:=blk_frozen BR2.out 0;have r2z1:=blk_frozen BR2.out 1;have r2z2:=blk_frozen BR2.out 2;have r2z3:=blk_frozen BR2.out 3;have r2z4:=blk_frozen BR2.out 4;have r2z5:=blk_frozen BR2.out 5;have HQ2:=Aside0.mk hp;have HG2:=Aside0.mk ((HG1.out.alloc _).trans hg);have HNX:=Aside0.mk hnx;have HFX:=Aside0.mk (Kd.F_mono hfx (ok':=fun q => w.heap.size < q) (fun q hq => by simp at hq;omega));clear hg ho hp hnx hfx;unfold cells43) | (go_at_call 369;refine (op_calls _ _ _ _ _).mono ?_;rintro e8 w8 ⟨rfl,o8,rfl⟩))
      refine bodyPost_ret (v:=.agg (cells43 (Ps.op Ps.sNot [e]) (some ⟨w2.heap.size,0,none⟩) 1).toArray) ?_ rfl ?_
      ·simp [results,Tryz.results368,go_sem,cells43,r2c0,r2z0,r2c1,r2z1,r2c2,r2z2,r2c3,r2z3,r2c4,r2z4,r2c5,r2z5,hs2] <;> exact ⟨rfl,rfl,rfl,rfl,rfl,rfl⟩
      ·refine Out.of_some HM.out ?_ ⟨some ⟨w2.heap.size,0,none⟩,1,rfl,Nat.le_refl _,?_⟩ ?_
       ·with_reducible (repeat (first | exact HG2.out | refine Gr.setB ?_ (Nat.le_refl _) _ _ | apply Gr.alloc | apply Gr.drewN))
       ·refine F_one (x:=e) (A:=Ax) (c:=nx) ?_ (by omega) HNX.out ?_
        ·exact blk_alloc (new_blk _ (by simp)) _
        ·refine Kd.F_mono (ok:=fun q => w.heap.size < q) ?_ (fun q hq => Nat.le_of_lt hq)
         with_reducible (repeat (first | exact HFX.out | refine Kd.F_far ?_ (fun q hq => Nat.ne_of_gt hq) _ | apply Kd.F_alloc))
       ·with_reducible (repeat (first | exact HQ2.out | refine PS.setB ?_ (by omega) (by omega) _ _ | apply PS.alloc | apply PS.drewN))
    ·rw [if_neg m0] at hm
     rw [wNot] at m0
     have q0:(t.f1.toList == [110,111,116])=false:=beq_eq_false_iff_ne.mpr m0
     clear m0
     by_cases m1:t.f1.toList=Ps.sMinus.toList
     ·rw [if_pos m1] at hm
      rw [wMinus] at m1
      have q1:(t.f1.toList == [45])=true:=beq_iff_eq.mpr m1
      clear m1
      cases hx:Ps.expr k 7 r with
      | none =>
       rw [hx] at hm
       have HX:=Aside0.mk hx
       clear hx
       have HM:=Aside0.mk hm
       clear hm
       go_enter Tryz.func368,Tryz.ntmps368
       go_wp2_with (first | (go_at_call 258;refine (next_out (HP.out.alloc _)).mono ?_;intro e w1 ho;obtain ⟨hg,v,rfl,rfl,hp⟩:=ho.some HN.out;have BR1:=Aside0.mk (hg.blk (new_blk (W:=w) _ rfl) (by omega));have hs1:w.heap.size < w1.heap.size:=blk_lt BR1.out;have r1c0:w1.cell? ⟨w.heap.size,0,none⟩=some (.string ⟨#[]⟩):=(blk_cell BR1.out 0).trans rfl;have r1c1:w1.cell? ⟨w.heap.size,1,none⟩=some (.int .i64 0):=(blk_cell BR1.out 1).trans rfl;have r1c2:w1.cell? ⟨w.heap.size,2,none⟩=some (.int .i64 0):=(blk_cell BR1.out 2).trans rfl;have r1c3:w1.cell? ⟨w.heap.size,3,none⟩=some (.string ⟨#[]⟩):=(blk_cell BR1.out 3).trans rfl;have r1c4:w1.cell? ⟨w.heap.size,4,none⟩=some (.string ⟨#[]⟩):=(blk_cell BR1.out 4).trans rfl;have r1c5:w1.cell? ⟨w.heap.size,5,none⟩=some (.slice none 0 0):=(blk_cell BR1.out 5).trans rfl;have r1z0:=blk_frozen BR1.out 0;have r1z1:=blk_frozen BR1.out 1;have r1z2:=blk_frozen BR1.out 2;have r1z3:=blk_frozen BR1.out 3;have r1z4:=blk_frozen BR1.out 4;have r1z5:=blk_frozen BR1.out 5;have HQ1:=Aside0.mk hp;have HG1:=Aside0.mk (((Gr.refl g w).alloc _).trans hg);clear hg ho hp) | (go_at_call 358;refine (ihE w0 g r _ 7 (HQ1.out.alloc _) (by have:=(Ps.nx_len HN.out).1;omega)).mono ?_;intro e w2 ho;obtain ⟨hg,rfl⟩:=ho.none HX.out;have HG2:=Aside0.mk ((HG1.out.alloc _).trans hg);clear hg ho))
       exact ⟨rfl,Out.of_none HM.out HG2.out⟩
      | some p =>
       obtain ⟨e,r1⟩:=p
       rw [hx] at hm
       have HX:=Aside0.mk hx
       clear hx
       have HM:=Aside0.mk hm
       clear hm
       go_enter Tryz.func368,Tryz.ntmps368
       go_wp2_with (first | (go_at_call 258;refine (next_out (HP.out.alloc _)).mono ?_;intro e w1 ho;obtain ⟨hg,v,rfl,rfl,hp⟩:=ho.some HN.out;have BR1:=Aside0.mk (hg.blk (new_blk (W:=w) _ rfl) (by omega));have hs1:w.heap.size < w1.heap.size:=blk_lt BR1.out;have r1c0:w1.cell? ⟨w.heap.size,0,none⟩=some (.string ⟨#[]⟩):=(blk_cell BR1.out 0).trans rfl;have r1c1:w1.cell? ⟨w.heap.size,1,none⟩=some (.int .i64 0):=(blk_cell BR1.out 1).trans rfl;have r1c2:w1.cell? ⟨w.heap.size,2,none⟩=some (.int .i64 0):=(blk_cell BR1.out 2).trans rfl;have r1c3:w1.cell? ⟨w.heap.size,3,none⟩=some (.string ⟨#[]⟩):=(blk_cell BR1.out 3).trans rfl;have r1c4:w1.cell? ⟨w.heap.size,4,none⟩=some (.string ⟨#[]⟩):=(blk_cell BR1.out 4).trans rfl;have r1c5:w1.cell? ⟨w.heap.size,5,none⟩=some (.slice none 0 0):=(blk_cell BR1.out 5).trans rfl;have r1z0:=blk_frozen BR1.out 0;have r1z1:=blk_frozen BR1.out 1;have r1z2:=blk_frozen BR1.out 2;have r1z3:=blk_frozen BR1.out 3;have r1z4:=blk_frozen BR1.out 4;have r1z5:=blk_frozen BR1.out 5;have HQ1:=Aside0.mk hp;have HG1:=Aside0.mk (((Gr.refl g w).alloc _).trans hg);clear hg ho hp) | (go_at_call 358;refine (ihE w0 g r _ 7 (HQ1.out.alloc _) (by have:=(Ps.nx_len HN.out).1;omega)).mono ?_;intro e9 w2 ho;obtain ⟨hg,v,rfl,hv,hp⟩:=ho.some HX.out;obtain ⟨Ax,nx,rfl,hnx,hfx⟩:=hv;have BR2:=Aside0.mk (hg.blk (blk_alloc BR1.out _) (by omega));have hs2:w.heap.size < w2.heap.size:=blk_lt BR2.out;have r2c0:w2.cell? ⟨w.heap.size,0,none⟩=some (.string ⟨#[]⟩):=(blk_cell BR2.out 0).trans rfl;have r2c1:w2.cell? ⟨w.heap.size,1,none⟩=some (.int .i64 0):=(blk_cell BR2.out 1).trans rfl;have r2c2:w2.cell? ⟨w.heap.size,2,none⟩=some (.int .i64 0):=(blk_cell BR2.out 2).trans rfl;have r2c3:w2.cell? ⟨w.heap.size,3,none⟩=some (.string ⟨#[]⟩):=(blk_cell BR2.out 3).trans rfl;have r2c4:w2.cell? ⟨w.heap.size,4,none⟩=some (.string ⟨#[]⟩):=(blk_cell BR2.out 4).trans rfl;have r2c5:w2.cell? ⟨w.heap.size,5,none⟩=some (.slice none 0 0):=(blk_cell BR2.out 5).trans rfl;have r2z0:=blk_frozen BR2.out 0;have r2z1:=blk_frozen BR2.out 1;have r2z2:=blk_frozen BR2.out 2;have r2z3:=blk_frozen BR2.out 3;have r2z4:=blk_frozen BR2.out 4;have r2z5:=blk_frozen BR2.out 5;have HQ2:=Aside0.mk hp;have HG2:=Aside0.mk ((HG1.out.alloc _).trans hg);have HNX:=Aside0.mk hnx;have HFX:=Aside0.mk (Kd.F_mono hfx (ok':=fun q => w.heap.size < q) (fun q hq => by simp at hq;omega));clear hg ho hp hnx hfx;unfold cells43) | (go_at_call 369;refine (op_calls _ _ _ _ _).mono ?_;rintro e8 w8 ⟨rfl,o8,rfl⟩))
       refine bodyPost_ret (v:=.agg (cells43 (Ps.op Ps.sNeg [e]) (some ⟨w2.heap.size,0,none⟩) 1).toArray) ?_ rfl ?_
       ·simp [results,Tryz.results368,go_sem,cells43,r2c0,r2z0,r2c1,r2z1,r2c2,r2z2,r2c3,r2z3,r2c4,r2z4,r2c5,r2z5,hs2] <;> exact ⟨rfl,rfl,rfl,rfl,rfl,rfl⟩
       ·refine Out.of_some HM.out ?_ ⟨some ⟨w2.heap.size,0,none⟩,1,rfl,Nat.le_refl _,?_⟩ ?_
        ·with_reducible (repeat (first | exact HG2.out | refine Gr.setB ?_ (Nat.le_refl _) _ _ | apply Gr.alloc | apply Gr.drewN))
        ·refine F_one (x:=e) (A:=Ax) (c:=nx) ?_ (by omega) HNX.out ?_
         ·exact blk_alloc (new_blk _ (by simp)) _
         ·refine Kd.F_mono (ok:=fun q => w.heap.size < q) ?_ (fun q hq => Nat.le_of_lt hq)
          with_reducible (repeat (first | exact HFX.out | refine Kd.F_far ?_ (fun q hq => Nat.ne_of_gt hq) _ | apply Kd.F_alloc))
        ·with_reducible (repeat (first | exact HQ2.out | refine PS.setB ?_ (by omega) (by omega) _ _ | apply PS.alloc | apply PS.drewN))
     ·rw [if_neg m1] at hm
      rw [wMinus] at m1
      have q1:(t.f1.toList == [45])=false:=beq_eq_false_iff_ne.mpr m1
      clear m1
      by_cases m2:t.f1.toList=Ps.sNull.toList
      ·rw [if_pos m2] at hm
       rw [wNull] at m2
       have q2:(t.f1.toList == [110,117,108,108])=true:=beq_iff_eq.mpr m2
       clear m2
       have HM:=Aside0.mk hm
       clear hm
       go_enter Tryz.func368,Tryz.ntmps368
       go_wp2_with (first | (go_at_call 258;refine (next_out (HP.out.alloc _)).mono ?_;intro e w1 ho;obtain ⟨hg,v,rfl,rfl,hp⟩:=ho.some HN.out;have BR1:=Aside0.mk (hg.blk (new_blk (W:=w) _ rfl) (by omega));have hs1:w.heap.size < w1.heap.size:=blk_lt BR1.out;have r1c0:w1.cell? ⟨w.heap.size,0,none⟩=some (.string ⟨#[]⟩):=(blk_cell BR1.out 0).trans rfl;have r1c1:w1.cell? ⟨w.heap.size,1,none⟩=some (.int .i64 0):=(blk_cell BR1.out 1).trans rfl;have r1c2:w1.cell? ⟨w.heap.size,2,none⟩=some (.int .i64 0):=(blk_cell BR1.out 2).trans rfl;have r1c3:w1.cell? ⟨w.heap.size,3,none⟩=some (.string ⟨#[]⟩):=(blk_cell BR1.out 3).trans rfl;have r1c4:w1.cell? ⟨w.heap.size,4,none⟩=some (.string ⟨#[]⟩):=(blk_cell BR1.out 4).trans rfl;have r1c5:w1.cell? ⟨w.heap.size,5,none⟩=some (.slice none 0 0):=(blk_cell BR1.out 5).trans rfl;have r1z0:=blk_frozen BR1.out 0;have r1z1:=blk_frozen BR1.out 1;have r1z2:=blk_frozen BR1.out 2;have r1z3:=blk_frozen BR1.out 3;have r1z4:=blk_frozen BR1.out 4;have r1z5:=blk_frozen BR1.out 5;have HQ1:=Aside0.mk hp;have HG1:=Aside0.mk (((Gr.refl g w).alloc _).trans hg);clear hg ho hp) | (go_at_call 370;refine (val_below _ _ _ _).mono ?_;rintro e8 w8 ⟨rfl,hb⟩;have hg:=Gr.of_below (g:=g) hb;have BR8:=Aside0.mk (hg.blk (blk_alloc BR1.out _) (by omega));have hs8:w.heap.size < w8.heap.size:=blk_lt BR8.out;have r8c0:w8.cell? ⟨w.heap.size,0,none⟩=some (.string ⟨#[]⟩):=(blk_cell BR8.out 0).trans rfl;have r8c1:w8.cell? ⟨w.heap.size,1,none⟩=some (.int .i64 0):=(blk_cell BR8.out 1).trans rfl;have r8c2:w8.cell? ⟨w.heap.size,2,none⟩=some (.int .i64 0):=(blk_cell BR8.out 2).trans rfl;have r8c3:w8.cell? ⟨w.heap.size,3,none⟩=some (.string ⟨#[]⟩):=(blk_cell BR8.out 3).trans rfl;have r8c4:w8.cell? ⟨w.heap.size,4,none⟩=some (.string ⟨#[]⟩):=(blk_cell BR8.out 4).trans rfl;have r8c5:w8.cell? ⟨w.heap.size,5,none⟩=some (.slice none 0 0):=(blk_cell BR8.out 5).trans rfl;have r8z0:=blk_frozen BR8.out 0;have r8z1:=blk_frozen BR8.out 1;have r8z2:=blk_frozen BR8.out 2;have r8z3:=blk_frozen BR8.out 3;have r8z4:=blk_frozen BR8.out 4;have r8z5:=blk_frozen BR8.out 5;have HQ8:=Aside0.mk ((HQ1.out.alloc _).below hb);have HG8:=Aside0.mk ((HG1.out.alloc _).trans hg);clear hg hb))
       refine bodyPost_ret (v:=.agg (cells43 (Ps.val Ps.v0) (none) 0).toArray) ?_ rfl ?_
       ·simp [results,Tryz.results368,go_sem,cells43,r8c0,r8z0,r8c1,r8z1,r8c2,r8z2,r8c3,r8z3,r8c4,r8z4,r8c5,r8z5,hs8] <;> exact ⟨rfl,rfl,rfl,rfl,rfl,rfl⟩
       ·refine Out.of_some HM.out ?_ ⟨none,0,rfl,Nat.le_refl _,?_⟩ ?_
        ·with_reducible (repeat (first | exact HG8.out | refine Gr.setB ?_ (Nat.le_refl _) _ _ | apply Gr.alloc | apply Gr.drewN))
        ·exact Kd.F_nil _ _ _
        ·with_reducible (repeat (first | exact HQ8.out | refine PS.setB ?_ (by omega) (by omega) _ _ | apply PS.alloc | apply PS.drewN))
      ·rw [if_neg m2] at hm
       rw [wNull] at m2
       have q2:(t.f1.toList == [110,117,108,108])=false:=beq_eq_false_iff_ne.mpr m2
       clear m2
       by_cases m3:t.f1.toList=Ps.sOpen.toList
       ·rw [if_pos m3] at hm
        rw [wOpen] at m3
        have q3:(t.f1.toList == [40])=true:=beq_iff_eq.mpr m3
        clear m3
        cases hx:Ps.expr k 0 r with
        | none =>
         rw [hx] at hm
         have HX:=Aside0.mk hx
         clear hx
         have HM:=Aside0.mk hm
         clear hm
         go_enter Tryz.func368,Tryz.ntmps368
         go_wp2_with (first | (go_at_call 258;refine (next_out (HP.out.alloc _)).mono ?_;intro e w1 ho;obtain ⟨hg,v,rfl,rfl,hp⟩:=ho.some HN.out;have BR1:=Aside0.mk (hg.blk (new_blk (W:=w) _ rfl) (by omega));have hs1:w.heap.size < w1.heap.size:=blk_lt BR1.out;have r1c0:w1.cell? ⟨w.heap.size,0,none⟩=some (.string ⟨#[]⟩):=(blk_cell BR1.out 0).trans rfl;have r1c1:w1.cell? ⟨w.heap.size,1,none⟩=some (.int .i64 0):=(blk_cell BR1.out 1).trans rfl;have r1c2:w1.cell? ⟨w.heap.size,2,none⟩=some (.int .i64 0):=(blk_cell BR1.out 2).trans rfl;have r1c3:w1.cell? ⟨w.heap.size,3,none⟩=some (.string ⟨#[]⟩):=(blk_cell BR1.out 3).trans rfl;have r1c4:w1.cell? ⟨w.heap.size,4,none⟩=some (.string ⟨#[]⟩):=(blk_cell BR1.out 4).trans rfl;have r1c5:w1.cell? ⟨w.heap.size,5,none⟩=some (.slice none 0 0):=(blk_cell BR1.out 5).trans rfl;have r1z0:=blk_frozen BR1.out 0;have r1z1:=blk_frozen BR1.out 1;have r1z2:=blk_frozen BR1.out 2;have r1z3:=blk_frozen BR1.out 3;have r1z4:=blk_frozen BR1.out 4;have r1z5:=blk_frozen BR1.out 5;have HQ1:=Aside0.mk hp;have HG1:=Aside0.mk (((Gr.refl g w).alloc _).trans hg);clear hg ho hp) | (go_at_call 358;refine (ihE w0 g r _ 0 (HQ1.out.alloc _) (by have:=(Ps.nx_len HN.out).1;omega)).mono ?_;intro e w2 ho;obtain ⟨hg,rfl⟩:=ho.none HX.out;have HG2:=Aside0.mk ((HG1.out.alloc _).trans hg);clear hg ho))
         exact ⟨rfl,Out.of_none HM.out HG2.out⟩
        | some p =>
         obtain ⟨e,r1⟩:=p
         rw [hx] at hm
         simp only at hm
         have HX:=Aside0.mk hx
         clear hx
         cases hu:Ps.ms [Ps.sClose] r1 with
         | none =>
          rw [hu] at hm
          have HU:=Aside0.mk hu
          clear hu
          have HM:=Aside0.mk hm
          clear hm
          go_enter Tryz.func368,Tryz.ntmps368
          go_wp2_with (first | (go_at_call 258;refine (next_out (HP.out.alloc _)).mono ?_;intro e w1 ho;obtain ⟨hg,v,rfl,rfl,hp⟩:=ho.some HN.out;have BR1:=Aside0.mk (hg.blk (new_blk (W:=w) _ rfl) (by omega));have hs1:w.heap.size < w1.heap.size:=blk_lt BR1.out;have r1c0:w1.cell? ⟨w.heap.size,0,none⟩=some (.string ⟨#[]⟩):=(blk_cell BR1.out 0).trans rfl;have r1c1:w1.cell? ⟨w.heap.size,1,none⟩=some (.int .i64 0):=(blk_cell BR1.out 1).trans rfl;have r1c2:w1.cell? ⟨w.heap.size,2,none⟩=some (.int .i64 0):=(blk_cell BR1.out 2).trans rfl;have r1c3:w1.cell? ⟨w.heap.size,3,none⟩=some (.string ⟨#[]⟩):=(blk_cell BR1.out 3).trans rfl;have r1c4:w1.cell? ⟨w.heap.size,4,none⟩=some (.string ⟨#[]⟩):=(blk_cell BR1.out 4).trans rfl;have r1c5:w1.cell? ⟨w.heap.size,5,none⟩=some (.slice none 0 0):=(blk_cell BR1.out 5).trans rfl;have r1z0:=blk_frozen BR1.out 0;have r1z1:=blk_frozen BR1.out 1;have r1z2:=blk_frozen BR1.out 2;have r1z3:=blk_frozen BR1.out 3;have r1z4:=blk_frozen BR1.out 4;have r1z5:=blk_frozen BR1.out 5;have HQ1:=Aside0.mk hp;have HG1:=Aside0.mk (((Gr.refl g w).alloc _).trans hg);clear hg ho hp) | (go_at_call 358;refine (ihE w0 g r _ 0 (HQ1.out.alloc _) (by have:=(Ps.nx_len HN.out).1;omega)).mono ?_;intro e9 w2 ho;obtain ⟨hg,v,rfl,hv,hp⟩:=ho.some HX.out;obtain ⟨Ax,nx,rfl,hnx,hfx⟩:=hv;have BR2:=Aside0.mk (hg.blk (blk_alloc BR1.out _) (by omega));have hs2:w.heap.size < w2.heap.size:=blk_lt BR2.out;have r2c0:w2.cell? ⟨w.heap.size,0,none⟩=some (.string ⟨#[]⟩):=(blk_cell BR2.out 0).trans rfl;have r2c1:w2.cell? ⟨w.heap.size,1,none⟩=some (.int .i64 0):=(blk_cell BR2.out 1).trans rfl;have r2c2:w2.cell? ⟨w.heap.size,2,none⟩=some (.int .i64 0):=(blk_cell BR2.out 2).trans rfl;have r2c3:w2.cell? ⟨w.heap.size,3,none⟩=some (.string ⟨#[]⟩):=(blk_cell BR2.out 3).trans rfl;have r2c4:w2.cell? ⟨w.heap.size,4,none⟩=some (.string ⟨#[]⟩):=(blk_cell BR2.out 4).trans rfl;have r2c5:w2.cell? ⟨w.heap.size,5,none⟩=some (.slice none 0 0):=(blk_cell BR2.out 5).trans rfl;have r2z0:=blk_frozen BR2.out 0;have r2z1:=blk_frozen BR2.out 1;have r2z2:=blk_frozen BR2.out 2;have r2z3:=blk_frozen BR2.out 3;have r2z4:=blk_frozen BR2.out 4;have r2z5:=blk_frozen BR2.out 5;have HQ2:=Aside0.mk hp;have HG2:=Aside0.mk ((HG1.out.alloc _).trans hg);have HNX:=Aside0.mk hnx;have HFX:=Aside0.mk (Kd.F_mono hfx (ok':=fun q => w.heap.size < q) (fun q hq => by simp at hq;omega));clear hg ho hp hnx hfx;unfold cells43) | (go_at_call 259;refine (must1 (HQ2.out.alloc _) (by simp) Ps.sClose 1).mono ?_;intro e7 w3 ho;obtain ⟨hg,rfl⟩:=ho.none (msU_none HU.out);have HGN:=Aside0.mk ((HG2.out.alloc _).trans hg);clear hg ho))
          exact ⟨rfl,Out.of_none HM.out HGN.out⟩
         | some r2 =>
          rw [hu] at hm
          have HU:=Aside0.mk hu
          clear hu
          have HM:=Aside0.mk hm
          clear hm
          go_enter Tryz.func368,Tryz.ntmps368
          go_wp2_with (first | (go_at_call 258;refine (next_out (HP.out.alloc _)).mono ?_;intro e w1 ho;obtain ⟨hg,v,rfl,rfl,hp⟩:=ho.some HN.out;have BR1:=Aside0.mk (hg.blk (new_blk (W:=w) _ rfl) (by omega));have hs1:w.heap.size < w1.heap.size:=blk_lt BR1.out;have r1c0:w1.cell? ⟨w.heap.size,0,none⟩=some (.string ⟨#[]⟩):=(blk_cell BR1.out 0).trans rfl;have r1c1:w1.cell? ⟨w.heap.size,1,none⟩=some (.int .i64 0):=(blk_cell BR1.out 1).trans rfl;have r1c2:w1.cell? ⟨w.heap.size,2,none⟩=some (.int .i64 0):=(blk_cell BR1.out 2).trans rfl;have r1c3:w1.cell? ⟨w.heap.size,3,none⟩=some (.string ⟨#[]⟩):=(blk_cell BR1.out 3).trans rfl;have r1c4:w1.cell? ⟨w.heap.size,4,none⟩=some (.string ⟨#[]⟩):=(blk_cell BR1.out 4).trans rfl;have r1c5:w1.cell? ⟨w.heap.size,5,none⟩=some (.slice none 0 0):=(blk_cell BR1.out 5).trans rfl;have r1z0:=blk_frozen BR1.out 0;have r1z1:=blk_frozen BR1.out 1;have r1z2:=blk_frozen BR1.out 2;have r1z3:=blk_frozen BR1.out 3;have r1z4:=blk_frozen BR1.out 4;have r1z5:=blk_frozen BR1.out 5;have HQ1:=Aside0.mk hp;have HG1:=Aside0.mk (((Gr.refl g w).alloc _).trans hg);clear hg ho hp) | (go_at_call 358;refine (ihE w0 g r _ 0 (HQ1.out.alloc _) (by have:=(Ps.nx_len HN.out).1;omega)).mono ?_;intro e9 w2 ho;obtain ⟨hg,v,rfl,hv,hp⟩:=ho.some HX.out;obtain ⟨Ax,nx,rfl,hnx,hfx⟩:=hv;have BR2:=Aside0.mk (hg.blk (blk_alloc BR1.out _) (by omega));have hs2:w.heap.size < w2.heap.size:=blk_lt BR2.out;have r2c0:w2.cell? ⟨w.heap.size,0,none⟩=some (.string ⟨#[]⟩):=(blk_cell BR2.out 0).trans rfl;have r2c1:w2.cell? ⟨w.heap.size,1,none⟩=some (.int .i64 0):=(blk_cell BR2.out 1).trans rfl;have r2c2:w2.cell? ⟨w.heap.size,2,none⟩=some (.int .i64 0):=(blk_cell BR2.out 2).trans rfl;have r2c3:w2.cell? ⟨w.heap.size,3,none⟩=some (.string ⟨#[]⟩):=(blk_cell BR2.out 3).trans rfl;have r2c4:w2.cell? ⟨w.heap.size,4,none⟩=some (.string ⟨#[]⟩):=(blk_cell BR2.out 4).trans rfl;have r2c5:w2.cell? ⟨w.heap.size,5,none⟩=some (.slice none 0 0):=(blk_cell BR2.out 5).trans rfl;have r2z0:=blk_frozen BR2.out 0;have r2z1:=blk_frozen BR2.out 1;have r2z2:=blk_frozen BR2.out 2;have r2z3:=blk_frozen BR2.out 3;have r2z4:=blk_frozen BR2.out 4;have r2z5:=blk_frozen BR2.out 5;have HQ2:=Aside0.mk hp;have HG2:=Aside0.mk ((HG1.out.alloc _).trans hg);have HNX:=Aside0.mk hnx;have HFX:=Aside0.mk (Kd.F_mono hfx (ok':=fun q => w.heap.size < q) (fun q hq => by simp at hq;omega));clear hg ho hp hnx hfx;unfold cells43) | (go_at_call 259;refine (must1 (HQ2.out.alloc _) (by simp) Ps.sClose 1).mono ?_;intro e7 w3 ho;obtain ⟨hg,v,rfl,rfl,hp⟩:=ho.some (msU_some HU.out);have BR3:=Aside0.mk (hg.blk (blk_alloc BR2.out _) (by omega));have hs3:w.heap.size < w3.heap.size:=blk_lt BR3.out;have r3c0:w3.cell? ⟨w.heap.size,0,none⟩=some (.string ⟨#[]⟩):=(blk_cell BR3.out 0).trans rfl;have r3c1:w3.cell? ⟨w.heap.size,1,none⟩=some (.int .i64 0):=(blk_cell BR3.out 1).trans rfl;have r3c2:w3.cell? ⟨w.heap.size,2,none⟩=some (.int .i64 0):=(blk_cell BR3.out 2).trans rfl;have r3c3:w3.cell? ⟨w.heap.size,3,none⟩=some (.string ⟨#[]⟩):=(blk_cell BR3.out 3).trans rfl;have r3c4:w3.cell? ⟨w.heap.size,4,none⟩=some (.string ⟨#[]⟩):=(blk_cell BR3.out 4).trans rfl;have r3c5:w3.cell? ⟨w.heap.size,5,none⟩=some (.slice none 0 0):=(blk_cell BR3.out 5).trans rfl;have r3z0:=blk_frozen BR3.out 0;have r3z1:=blk_frozen BR3.out 1;have r3z2:=blk_frozen BR3.out 2;have r3z3:=blk_frozen BR3.out 3;have r3z4:=blk_frozen BR3.out 4;have r3z5:=blk_frozen BR3.out 5;have BE3:=Aside0.mk (hg.blk (new_blk (W:=w2) _ rfl) (by omega));have e3c0:w3.cell? ⟨w2.heap.size,0,none⟩=some (.string e.f0):=(blk_cell BE3.out 0).trans rfl;have e3c1:w3.cell? ⟨w2.heap.size,1,none⟩=some (.int .i64 e.f1.f0):=(blk_cell BE3.out 1).trans rfl;have e3c2:w3.cell? ⟨w2.heap.size,2,none⟩=some (.int .i64 e.f1.f1):=(blk_cell BE3.out 2).trans rfl;have e3c3:w3.cell? ⟨w2.heap.size,3,none⟩=some (.string e.f1.f2):=(blk_cell BE3.out 3).trans rfl;have e3c4:w3.cell? ⟨w2.heap.size,4,none⟩=some (.string e.f2):=(blk_cell BE3.out 4).trans rfl;have e3c5:w3.cell? ⟨w2.heap.size,5,none⟩=some (.slice Ax e.f3.length nx):=(blk_cell BE3.out 5).trans rfl;have HQ3:=Aside0.mk hp;have HG3:=Aside0.mk ((HG2.out.alloc _).trans hg);have HF3:=Aside0.mk (hg.F (Kd.F_alloc HFX.out _) (fun q hq => by have h1:w.heap.size < q:=hq;omega));clear hg ho hp))
          refine bodyPost_ret (v:=.agg (cells43 (e) (Ax) nx).toArray) ?_ rfl ?_
          ·simp [results,Tryz.results368,go_sem,cells43,r3c0,r3z0,r3c1,r3z1,r3c2,r3z2,r3c3,r3z3,r3c4,r3z4,r3c5,r3z5,hs3] <;> exact ⟨rfl,rfl,rfl,rfl,rfl,rfl⟩
          ·refine Out.of_some HM.out ?_ ⟨Ax,nx,rfl,HNX.out,?_⟩ ?_
           ·with_reducible (repeat (first | exact HG3.out | refine Gr.setB ?_ (Nat.le_refl _) _ _ | apply Gr.alloc | apply Gr.drewN))
           ·refine Kd.F_mono (ok:=fun q => w.heap.size < q) ?_ (fun q hq => Nat.le_of_lt hq)
            with_reducible (repeat (first | exact HF3.out | refine Kd.F_far ?_ (fun q hq => Nat.ne_of_gt hq) _ | apply Kd.F_alloc))
           ·with_reducible (repeat (first | exact HQ3.out | refine PS.setB ?_ (by omega) (by omega) _ _ | apply PS.alloc | apply PS.drewN))
       ·rw [if_neg m3] at hm
        rw [wOpen] at m3
        have q3:(t.f1.toList == [40])=false:=beq_eq_false_iff_ne.mpr m3
        clear m3
        by_cases m4:t.f1.toList=Ps.sCount.toList
        ·rw [if_pos m4] at hm
         rw [wCount] at m4
         have q4:(t.f1.toList == [99,111,117,110,116])=true:=beq_iff_eq.mpr m4
         clear m4
         cases hu:Ps.ms [Ps.sOpen,Ps.sStar,Ps.sClose] r with
         | none =>
          rw [hu] at hm
          have HU:=Aside0.mk hu
          clear hu
          have HM:=Aside0.mk hm
          clear hm
          go_enter Tryz.func368,Tryz.ntmps368
          go_wp2_with (first | (go_at_call 258;refine (next_out (HP.out.alloc _)).mono ?_;intro e w1 ho;obtain ⟨hg,v,rfl,rfl,hp⟩:=ho.some HN.out;have BR1:=Aside0.mk (hg.blk (new_blk (W:=w) _ rfl) (by omega));have hs1:w.heap.size < w1.heap.size:=blk_lt BR1.out;have r1c0:w1.cell? ⟨w.heap.size,0,none⟩=some (.string ⟨#[]⟩):=(blk_cell BR1.out 0).trans rfl;have r1c1:w1.cell? ⟨w.heap.size,1,none⟩=some (.int .i64 0):=(blk_cell BR1.out 1).trans rfl;have r1c2:w1.cell? ⟨w.heap.size,2,none⟩=some (.int .i64 0):=(blk_cell BR1.out 2).trans rfl;have r1c3:w1.cell? ⟨w.heap.size,3,none⟩=some (.string ⟨#[]⟩):=(blk_cell BR1.out 3).trans rfl;have r1c4:w1.cell? ⟨w.heap.size,4,none⟩=some (.string ⟨#[]⟩):=(blk_cell BR1.out 4).trans rfl;have r1c5:w1.cell? ⟨w.heap.size,5,none⟩=some (.slice none 0 0):=(blk_cell BR1.out 5).trans rfl;have r1z0:=blk_frozen BR1.out 0;have r1z1:=blk_frozen BR1.out 1;have r1z2:=blk_frozen BR1.out 2;have r1z3:=blk_frozen BR1.out 3;have r1z4:=blk_frozen BR1.out 4;have r1z5:=blk_frozen BR1.out 5;have HQ1:=Aside0.mk hp;have HG1:=Aside0.mk (((Gr.refl g w).alloc _).trans hg);clear hg ho hp) | (go_at_call 259;refine (must3 (HQ1.out.alloc _) (by simp) Ps.sOpen Ps.sStar Ps.sClose 3).mono ?_;intro e7 w2 ho;obtain ⟨hg,rfl⟩:=ho.none (msU_none HU.out);have HGN:=Aside0.mk ((HG1.out.alloc _).trans hg);clear hg ho))
          exact ⟨rfl,Out.of_none HM.out HGN.out⟩
         | some r1 =>
          rw [hu] at hm
          have HU:=Aside0.mk hu
          clear hu
          have HM:=Aside0.mk hm
          clear hm
          go_enter Tryz.func368,Tryz.ntmps368
          go_wp2_with (first | (go_at_call 258;refine (next_out (HP.out.alloc _)).mono ?_;intro e w1 ho;obtain ⟨hg,v,rfl,rfl,hp⟩:=ho.some HN.out;have BR1:=Aside0.mk (hg.blk (new_blk (W:=w) _ rfl) (by omega));have hs1:w.heap.size < w1.heap.size:=blk_lt BR1.out;have r1c0:w1.cell? ⟨w.heap.size,0,none⟩=some (.string ⟨#[]⟩):=(blk_cell BR1.out 0).trans rfl;have r1c1:w1.cell? ⟨w.heap.size,1,none⟩=some (.int .i64 0):=(blk_cell BR1.out 1).trans rfl;have r1c2:w1.cell? ⟨w.heap.size,2,none⟩=some (.int .i64 0):=(blk_cell BR1.out 2).trans rfl;have r1c3:w1.cell? ⟨w.heap.size,3,none⟩=some (.string ⟨#[]⟩):=(blk_cell BR1.out 3).trans rfl;have r1c4:w1.cell? ⟨w.heap.size,4,none⟩=some (.string ⟨#[]⟩):=(blk_cell BR1.out 4).trans rfl;have r1c5:w1.cell? ⟨w.heap.size,5,none⟩=some (.slice none 0 0):=(blk_cell BR1.out 5).trans rfl;have r1z0:=blk_frozen BR1.out 0;have r1z1:=blk_frozen BR1.out 1;have r1z2:=blk_frozen BR1.out 2;have r1z3:=blk_frozen BR1.out 3;have r1z4:=blk_frozen BR1.out 4;have r1z5:=blk_frozen BR1.out 5;have HQ1:=Aside0.mk hp;have HG1:=Aside0.mk (((Gr.refl g w).alloc _).trans hg);clear hg ho hp) | (go_at_call 259;refine (must3 (HQ1.out.alloc _) (by simp) Ps.sOpen Ps.sStar Ps.sClose 3).mono ?_;intro e7 w2 ho;obtain ⟨hg,v,rfl,rfl,hp⟩:=ho.some (msU_some HU.out);have BR2:=Aside0.mk (hg.blk (blk_alloc BR1.out _) (by omega));have hs2:w.heap.size < w2.heap.size:=blk_lt BR2.out;have r2c0:w2.cell? ⟨w.heap.size,0,none⟩=some (.string ⟨#[]⟩):=(blk_cell BR2.out 0).trans rfl;have r2c1:w2.cell? ⟨w.heap.size,1,none⟩=some (.int .i64 0):=(blk_cell BR2.out 1).trans rfl;have r2c2:w2.cell? ⟨w.heap.size,2,none⟩=some (.int .i64 0):=(blk_cell BR2.out 2).trans rfl;have r2c3:w2.cell? ⟨w.heap.size,3,none⟩=some (.string ⟨#[]⟩):=(blk_cell BR2.out 3).trans rfl;have r2c4:w2.cell? ⟨w.heap.size,4,none⟩=some (.string ⟨#[]⟩):=(blk_cell BR2.out 4).trans rfl;have r2c5:w2.cell? ⟨w.heap.size,5,none⟩=some (.slice none 0 0):=(blk_cell BR2.out 5).trans rfl;have r2z0:=blk_frozen BR2.out 0;have r2z1:=blk_frozen BR2.out 1;have r2z2:=blk_frozen BR2.out 2;have r2z3:=blk_frozen BR2.out 3;have r2z4:=blk_frozen BR2.out 4;have r2z5:=blk_frozen BR2.out 5;have HQ2:=Aside0.mk hp;have HG2:=Aside0.mk ((HG1.out.alloc _).trans hg);clear hg ho hp) | (go_at_call 369;refine (op_calls _ _ _ _ _).mono ?_;rintro e8 w8 ⟨rfl,o8,rfl⟩))
          refine bodyPost_ret (v:=.agg (cells43 (Ps.op Ps.sCount []) (none) 0).toArray) ?_ rfl ?_
          ·simp [results,Tryz.results368,go_sem,cells43,r2c0,r2z0,r2c1,r2z1,r2c2,r2z2,r2c3,r2z3,r2c4,r2z4,r2c5,r2z5,hs2] <;> exact ⟨rfl,rfl,rfl,rfl,rfl,rfl⟩
          ·refine Out.of_some HM.out ?_ ⟨none,0,rfl,Nat.le_refl _,?_⟩ ?_
           ·with_reducible (repeat (first | exact HG2.out | refine Gr.setB ?_ (Nat.le_refl _) _ _ | apply Gr.alloc | apply Gr.drewN))
           ·exact Kd.F_nil _ _ _
           ·with_reducible (repeat (first | exact HQ2.out | refine PS.setB ?_ (by omega) (by omega) _ _ | apply PS.alloc | apply PS.drewN))
        ·rw [if_neg m4] at hm
         rw [wCount] at m4
         have q4:(t.f1.toList == [99,111,117,110,116])=false:=beq_eq_false_iff_ne.mpr m4
         clear m4
         by_cases m6:t.f1.toList=Ps.sSum.toList
         ·rw [if_pos (Or.inl m6)] at hm
          rw [wSum] at m6
          have q6:(t.f1.toList == [115,117,109])=true:=beq_iff_eq.mpr m6
          clear m6
          cases hu:Ps.ms [Ps.sOpen] r with
          | none =>
           rw [hu] at hm
           have HU:=Aside0.mk hu
           clear hu
           have HM:=Aside0.mk hm
           clear hm
           go_enter Tryz.func368,Tryz.ntmps368
           go_wp2_with (first | (go_at_call 258;refine (next_out (HP.out.alloc _)).mono ?_;intro e w1 ho;obtain ⟨hg,v,rfl,rfl,hp⟩:=ho.some HN.out;have BR1:=Aside0.mk (hg.blk (new_blk (W:=w) _ rfl) (by omega));have hs1:w.heap.size < w1.heap.size:=blk_lt BR1.out;have r1c0:w1.cell? ⟨w.heap.size,0,none⟩=some (.string ⟨#[]⟩):=(blk_cell BR1.out 0).trans rfl;have r1c1:w1.cell? ⟨w.heap.size,1,none⟩=some (.int .i64 0):=(blk_cell BR1.out 1).trans rfl;have r1c2:w1.cell? ⟨w.heap.size,2,none⟩=some (.int .i64 0):=(blk_cell BR1.out 2).trans rfl;have r1c3:w1.cell? ⟨w.heap.size,3,none⟩=some (.string ⟨#[]⟩):=(blk_cell BR1.out 3).trans rfl;have r1c4:w1.cell? ⟨w.heap.size,4,none⟩=some (.string ⟨#[]⟩):=(blk_cell BR1.out 4).trans rfl;have r1c5:w1.cell? ⟨w.heap.size,5,none⟩=some (.slice none 0 0):=(blk_cell BR1.out 5).trans rfl;have r1z0:=blk_frozen BR1.out 0;have r1z1:=blk_frozen BR1.out 1;have r1z2:=blk_frozen BR1.out 2;have r1z3:=blk_frozen BR1.out 3;have r1z4:=blk_frozen BR1.out 4;have r1z5:=blk_frozen BR1.out 5;have HQ1:=Aside0.mk hp;have HG1:=Aside0.mk (((Gr.refl g w).alloc _).trans hg);clear hg ho hp) | (go_at_call 259;refine (must1 (HQ1.out.alloc _) (by simp) Ps.sOpen 1).mono ?_;intro e7 w2 ho;obtain ⟨hg,rfl⟩:=ho.none (msU_none HU.out);have HGN:=Aside0.mk ((HG1.out.alloc _).trans hg);clear hg ho))
           exact ⟨rfl,Out.of_none HM.out HGN.out⟩
          | some r1 =>
           rw [hu] at hm
           simp only at hm
           have HU:=Aside0.mk hu
           clear hu
           cases hx:Ps.expr k 0 r1 with
           | none =>
            rw [hx] at hm
            have HX:=Aside0.mk hx
            clear hx
            have HM:=Aside0.mk hm
            clear hm
            go_enter Tryz.func368,Tryz.ntmps368
            go_wp2_with (first | (go_at_call 258;refine (next_out (HP.out.alloc _)).mono ?_;intro e w1 ho;obtain ⟨hg,v,rfl,rfl,hp⟩:=ho.some HN.out;have BR1:=Aside0.mk (hg.blk (new_blk (W:=w) _ rfl) (by omega));have hs1:w.heap.size < w1.heap.size:=blk_lt BR1.out;have r1c0:w1.cell? ⟨w.heap.size,0,none⟩=some (.string ⟨#[]⟩):=(blk_cell BR1.out 0).trans rfl;have r1c1:w1.cell? ⟨w.heap.size,1,none⟩=some (.int .i64 0):=(blk_cell BR1.out 1).trans rfl;have r1c2:w1.cell? ⟨w.heap.size,2,none⟩=some (.int .i64 0):=(blk_cell BR1.out 2).trans rfl;have r1c3:w1.cell? ⟨w.heap.size,3,none⟩=some (.string ⟨#[]⟩):=(blk_cell BR1.out 3).trans rfl;have r1c4:w1.cell? ⟨w.heap.size,4,none⟩=some (.string ⟨#[]⟩):=(blk_cell BR1.out 4).trans rfl;have r1c5:w1.cell? ⟨w.heap.size,5,none⟩=some (.slice none 0 0):=(blk_cell BR1.out 5).trans rfl;have r1z0:=blk_frozen BR1.out 0;have r1z1:=blk_frozen BR1.out 1;have r1z2:=blk_frozen BR1.out 2;have r1z3:=blk_frozen BR1.out 3;have r1z4:=blk_frozen BR1.out 4;have r1z5:=blk_frozen BR1.out 5;have HQ1:=Aside0.mk hp;have HG1:=Aside0.mk (((Gr.refl g w).alloc _).trans hg);clear hg ho hp) | (go_at_call 259;refine (must1 (HQ1.out.alloc _) (by simp) Ps.sOpen 1).mono ?_;intro e7 w2 ho;obtain ⟨hg,v,rfl,rfl,hp⟩:=ho.some (msU_some HU.out);have BR2:=Aside0.mk (hg.blk (blk_alloc BR1.out _) (by omega));have BT2:=Aside0.mk (hg.blk (new_blk (W:=w1) _ rfl) (by omega));have hs2:=blk_lt BT2.out;have HQ2:=Aside0.mk hp;have HG2:=Aside0.mk ((HG1.out.alloc _).trans hg);clear hg ho hp) | (go_at_call 358;refine (ihE w0 g r1 _ 0 HQ2.out (by have:=(Ps.nx_len HN.out).1;have:=Ps.ms_len HU.out;omega)).mono ?_;intro e9 w3 ho;obtain ⟨hg,rfl⟩:=ho.none HX.out;have HG3:=Aside0.mk (HG2.out.trans hg);clear hg ho))
            exact ⟨rfl,Out.of_none HM.out HG3.out⟩
           | some p =>
            obtain ⟨e,r2⟩:=p
            rw [hx] at hm
            simp only at hm
            have HX:=Aside0.mk hx
            clear hx
            cases hv:Ps.ms [Ps.sClose] r2 with
            | none =>
             rw [hv] at hm
             have HV:=Aside0.mk hv
             clear hv
             have HM:=Aside0.mk hm
             clear hm
             go_enter Tryz.func368,Tryz.ntmps368
             go_wp2_with (first | (go_at_call 258;refine (next_out (HP.out.alloc _)).mono ?_;intro e w1 ho;obtain ⟨hg,v,rfl,rfl,hp⟩:=ho.some HN.out;have BR1:=Aside0.mk (hg.blk (new_blk (W:=w) _ rfl) (by omega));have hs1:w.heap.size < w1.heap.size:=blk_lt BR1.out;have r1c0:w1.cell? ⟨w.heap.size,0,none⟩=some (.string ⟨#[]⟩):=(blk_cell BR1.out 0).trans rfl;have r1c1:w1.cell? ⟨w.heap.size,1,none⟩=some (.int .i64 0):=(blk_cell BR1.out 1).trans rfl;have r1c2:w1.cell? ⟨w.heap.size,2,none⟩=some (.int .i64 0):=(blk_cell BR1.out 2).trans rfl;have r1c3:w1.cell? ⟨w.heap.size,3,none⟩=some (.string ⟨#[]⟩):=(blk_cell BR1.out 3).trans rfl;have r1c4:w1.cell? ⟨w.heap.size,4,none⟩=some (.string ⟨#[]⟩):=(blk_cell BR1.out 4).trans rfl;have r1c5:w1.cell? ⟨w.heap.size,5,none⟩=some (.slice none 0 0):=(blk_cell BR1.out 5).trans rfl;have r1z0:=blk_frozen BR1.out 0;have r1z1:=blk_frozen BR1.out 1;have r1z2:=blk_frozen BR1.out 2;have r1z3:=blk_frozen BR1.out 3;have r1z4:=blk_frozen BR1.out 4;have r1z5:=blk_frozen BR1.out 5;have HQ1:=Aside0.mk hp;have HG1:=Aside0.mk (((Gr.refl g w).alloc _).trans hg);clear hg ho hp) | (go_at_call 259;refine (must1 (HQ1.out.alloc _) (by simp) Ps.sOpen 1).mono ?_;intro e7 w2 ho;obtain ⟨hg,v,rfl,rfl,hp⟩:=ho.some (msU_some HU.out);have BR2:=Aside0.mk (hg.blk (blk_alloc BR1.out _) (by omega));have BT2:=Aside0.mk (hg.blk (new_blk (W:=w1) _ rfl) (by omega));have hs2:=blk_lt BT2.out;have HQ2:=Aside0.mk hp;have HG2:=Aside0.mk ((HG1.out.alloc _).trans hg);clear hg ho hp) | (go_at_call 358;refine (ihE w0 g r1 _ 0 HQ2.out (by have:=(Ps.nx_len HN.out).1;have:=Ps.ms_len HU.out;omega)).mono ?_;intro e9 w3 ho;obtain ⟨hg,v,rfl,hv,hp⟩:=ho.some HX.out;obtain ⟨Ax,nx,rfl,hnx,hfx⟩:=hv;have BR3:=Aside0.mk (hg.blk BR2.out (by omega));have BT3:=Aside0.mk (hg.blk BT2.out (by omega));have hs3:=blk_lt BT3.out;have HQ3:=Aside0.mk hp;have HG3:=Aside0.mk (HG2.out.trans hg);have HNX:=Aside0.mk hnx;have HFX:=Aside0.mk (Kd.F_mono hfx (ok':=fun q => w.heap.size < q) (fun q hq => by have h1:w2.heap.size ≤ q:=hq;omega));clear hg ho hp hnx hfx;unfold cells43) | (go_at_call 259;refine (must1 (HQ3.out.alloc _) (by simp) Ps.sClose 1).mono ?_;intro e7 w4 ho;obtain ⟨hg,rfl⟩:=ho.none (msU_none HV.out);have HGN:=Aside0.mk ((HG3.out.alloc _).trans hg);clear hg ho))
             exact ⟨rfl,Out.of_none HM.out HGN.out⟩
            | some r3 =>
             rw [hv] at hm
             have HV:=Aside0.mk hv
             clear hv
             have HM:=Aside0.mk hm
             clear hm
             go_enter Tryz.func368,Tryz.ntmps368
             go_wp2_with (first | (go_at_call 258;refine (next_out (HP.out.alloc _)).mono ?_;intro e w1 ho;obtain ⟨hg,v,rfl,rfl,hp⟩:=ho.some HN.out;have BR1:=Aside0.mk (hg.blk (new_blk (W:=w) _ rfl) (by omega));have hs1:w.heap.size < w1.heap.size:=blk_lt BR1.out;have r1c0:w1.cell? ⟨w.heap.size,0,none⟩=some (.string ⟨#[]⟩):=(blk_cell BR1.out 0).trans rfl;have r1c1:w1.cell? ⟨w.heap.size,1,none⟩=some (.int .i64 0):=(blk_cell BR1.out 1).trans rfl;have r1c2:w1.cell? ⟨w.heap.size,2,none⟩=some (.int .i64 0):=(blk_cell BR1.out 2).trans rfl;have r1c3:w1.cell? ⟨w.heap.size,3,none⟩=some (.string ⟨#[]⟩):=(blk_cell BR1.out 3).trans rfl;have r1c4:w1.cell? ⟨w.heap.size,4,none⟩=some (.string ⟨#[]⟩):=(blk_cell BR1.out 4).trans rfl;have r1c5:w1.cell? ⟨w.heap.size,5,none⟩=some (.slice none 0 0):=(blk_cell BR1.out 5).trans rfl;have r1z0:=blk_frozen BR1.out 0;have r1z1:=blk_frozen BR1.out 1;have r1z2:=blk_frozen BR1.out 2;have r1z3:=blk_frozen BR1.out 3;have r1z4:=blk_frozen BR1.out 4;have r1z5:=blk_frozen BR1.out 5;have HQ1:=Aside0.mk hp;have HG1:=Aside0.mk (((Gr.refl g w).alloc _).trans hg);clear hg ho hp) | (go_at_call 259;refine (must1 (HQ1.out.alloc _) (by simp) Ps.sOpen 1).mono ?_;intro e7 w2 ho;obtain ⟨hg,v,rfl,rfl,hp⟩:=ho.some (msU_some HU.out);have BR2:=Aside0.mk (hg.blk (blk_alloc BR1.out _) (by omega));have BT2:=Aside0.mk (hg.blk (new_blk (W:=w1) _ rfl) (by omega));have hs2:=blk_lt BT2.out;have HQ2:=Aside0.mk hp;have HG2:=Aside0.mk ((HG1.out.alloc _).trans hg);clear hg ho hp) | (go_at_call 358;refine (ihE w0 g r1 _ 0 HQ2.out (by have:=(Ps.nx_len HN.out).1;have:=Ps.ms_len HU.out;omega)).mono ?_;intro e9 w3 ho;obtain ⟨hg,v,rfl,hv,hp⟩:=ho.some HX.out;obtain ⟨Ax,nx,rfl,hnx,hfx⟩:=hv;have BR3:=Aside0.mk (hg.blk BR2.out (by omega));have BT3:=Aside0.mk (hg.blk BT2.out (by omega));have hs3:=blk_lt BT3.out;have HQ3:=Aside0.mk hp;have HG3:=Aside0.mk (HG2.out.trans hg);have HNX:=Aside0.mk hnx;have HFX:=Aside0.mk (Kd.F_mono hfx (ok':=fun q => w.heap.size < q) (fun q hq => by have h1:w2.heap.size ≤ q:=hq;omega));clear hg ho hp hnx hfx;unfold cells43) | (go_at_call 259;refine (must1 (HQ3.out.alloc _) (by simp) Ps.sClose 1).mono ?_;intro e7 w4 ho;obtain ⟨hg,v,rfl,rfl,hp⟩:=ho.some (msU_some HV.out);have BR4:=Aside0.mk (hg.blk (blk_alloc BR3.out _) (by omega));have r4c0:w4.cell? ⟨w.heap.size,0,none⟩=some (.string ⟨#[]⟩):=(blk_cell BR4.out 0).trans rfl;have r4c1:w4.cell? ⟨w.heap.size,1,none⟩=some (.int .i64 0):=(blk_cell BR4.out 1).trans rfl;have r4c2:w4.cell? ⟨w.heap.size,2,none⟩=some (.int .i64 0):=(blk_cell BR4.out 2).trans rfl;have r4c3:w4.cell? ⟨w.heap.size,3,none⟩=some (.string ⟨#[]⟩):=(blk_cell BR4.out 3).trans rfl;have r4c4:w4.cell? ⟨w.heap.size,4,none⟩=some (.string ⟨#[]⟩):=(blk_cell BR4.out 4).trans rfl;have r4c5:w4.cell? ⟨w.heap.size,5,none⟩=some (.slice none 0 0):=(blk_cell BR4.out 5).trans rfl;have r4z0:=blk_frozen BR4.out 0;have r4z1:=blk_frozen BR4.out 1;have r4z2:=blk_frozen BR4.out 2;have r4z3:=blk_frozen BR4.out 3;have r4z4:=blk_frozen BR4.out 4;have r4z5:=blk_frozen BR4.out 5;have BT4:=Aside0.mk (hg.blk (blk_alloc BT3.out _) (by omega));have t4c0:w4.cell? ⟨w1.heap.size,0,none⟩=some (.int .i64 t.f0):=(blk_cell BT4.out 0).trans rfl;have t4c1:w4.cell? ⟨w1.heap.size,1,none⟩=some (.string t.f1):=(blk_cell BT4.out 1).trans rfl;have t4c2:w4.cell? ⟨w1.heap.size,2,none⟩=some (.int .i64 t.f2):=(blk_cell BT4.out 2).trans rfl;have BE4:=Aside0.mk (hg.blk (new_blk (W:=w3) _ rfl) (by omega));have e4c0:w4.cell? ⟨w3.heap.size,0,none⟩=some (.string e.f0):=(blk_cell BE4.out 0).trans rfl;have e4c1:w4.cell? ⟨w3.heap.size,1,none⟩=some (.int .i64 e.f1.f0):=(blk_cell BE4.out 1).trans rfl;have e4c2:w4.cell? ⟨w3.heap.size,2,none⟩=some (.int .i64 e.f1.f1):=(blk_cell BE4.out 2).trans rfl;have e4c3:w4.cell? ⟨w3.heap.size,3,none⟩=some (.string e.f1.f2):=(blk_cell BE4.out 3).trans rfl;have e4c4:w4.cell? ⟨w3.heap.size,4,none⟩=some (.string e.f2):=(blk_cell BE4.out 4).trans rfl;have e4c5:w4.cell? ⟨w3.heap.size,5,none⟩=some (.slice Ax e.f3.length nx):=(blk_cell BE4.out 5).trans rfl;have hs4:w.heap.size < w4.heap.size:=blk_lt BR4.out;have ht4:w1.heap.size < w4.heap.size:=blk_lt BT4.out;have he4:w3.heap.size < w4.heap.size:=blk_lt BE4.out;have HQ4:=Aside0.mk hp;have HG4:=Aside0.mk ((HG3.out.alloc _).trans hg);have HFX4:=Aside0.mk (hg.F (Kd.F_alloc HFX.out _) (fun q hq => by have h1:w.heap.size < q:=hq;omega));clear hg ho hp HFX;have HFX:=HFX4;clear HFX4) | (go_at_call 369;refine (op_calls _ _ _ _ _).mono ?_;rintro e8 w8 ⟨rfl,o8,rfl⟩))
             refine bodyPost_ret (v:=.agg (cells43 (Ps.op t.f1 [e]) (some ⟨w4.heap.size,0,none⟩) 1).toArray) ?_ rfl ?_
             ·simp [results,Tryz.results368,go_sem,cells43,r4c0,r4z0,r4c1,r4z1,r4c2,r4z2,r4c3,r4z3,r4c4,r4z4,r4c5,r4z5,hs4] <;> exact ⟨rfl,rfl,rfl,rfl,rfl,rfl⟩
             ·refine Out.of_some HM.out ?_ ⟨some ⟨w4.heap.size,0,none⟩,1,rfl,Nat.le_refl _,?_⟩ ?_
              ·with_reducible (repeat (first | exact HG4.out | refine Gr.setB ?_ (Nat.le_refl _) _ _ | apply Gr.alloc | apply Gr.drewN))
              ·refine F_one (x:=e) (A:=Ax) (c:=nx) ?_ (by omega) HNX.out ?_
               ·exact blk_alloc (new_blk _ (by simp)) _
               ·refine Kd.F_mono (ok:=fun q => w.heap.size < q) ?_ (fun q hq => Nat.le_of_lt hq)
                with_reducible (repeat (first | exact HFX.out | refine Kd.F_far ?_ (fun q hq => Nat.ne_of_gt hq) _ | apply Kd.F_alloc))
              ·with_reducible (repeat (first | exact HQ4.out | refine PS.setB ?_ (by omega) (by omega) _ _ | apply PS.alloc | apply PS.drewN))
         ·by_cases m7:t.f1.toList=Ps.sMin.toList
          ·rw [if_pos (Or.inr (Or.inl m7))] at hm
           rw [wMin] at m7
           rw [wSum] at m6
           have q6:(t.f1.toList == [115,117,109])=false:=beq_eq_false_iff_ne.mpr m6
           have q7:(t.f1.toList == [109,105,110])=true:=beq_iff_eq.mpr m7
           clear m6 m7
           cases hu:Ps.ms [Ps.sOpen] r with
           | none =>
            rw [hu] at hm
            have HU:=Aside0.mk hu
            clear hu
            have HM:=Aside0.mk hm
            clear hm
            go_enter Tryz.func368,Tryz.ntmps368
            go_wp2_with (first | (go_at_call 258;refine (next_out (HP.out.alloc _)).mono ?_;intro e w1 ho;obtain ⟨hg,v,rfl,rfl,hp⟩:=ho.some HN.out;have BR1:=Aside0.mk (hg.blk (new_blk (W:=w) _ rfl) (by omega));have hs1:w.heap.size < w1.heap.size:=blk_lt BR1.out;have r1c0:w1.cell? ⟨w.heap.size,0,none⟩=some (.string ⟨#[]⟩):=(blk_cell BR1.out 0).trans rfl;have r1c1:w1.cell? ⟨w.heap.size,1,none⟩=some (.int .i64 0):=(blk_cell BR1.out 1).trans rfl;have r1c2:w1.cell? ⟨w.heap.size,2,none⟩=some (.int .i64 0):=(blk_cell BR1.out 2).trans rfl;have r1c3:w1.cell? ⟨w.heap.size,3,none⟩=some (.string ⟨#[]⟩):=(blk_cell BR1.out 3).trans rfl;have r1c4:w1.cell? ⟨w.heap.size,4,none⟩=some (.string ⟨#[]⟩):=(blk_cell BR1.out 4).trans rfl;have r1c5:w1.cell? ⟨w.heap.size,5,none⟩=some (.slice none 0 0):=(blk_cell BR1.out 5).trans rfl;have r1z0:=blk_frozen BR1.out 0;have r1z1:=blk_frozen BR1.out 1;have r1z2:=blk_frozen BR1.out 2;have r1z3:=blk_frozen BR1.out 3;have r1z4:=blk_frozen BR1.out 4;have r1z5:=blk_frozen BR1.out 5;have HQ1:=Aside0.mk hp;have HG1:=Aside0.mk (((Gr.refl g w).alloc _).trans hg);clear hg ho hp) | (go_at_call 259;refine (must1 (HQ1.out.alloc _) (by simp) Ps.sOpen 1).mono ?_;intro e7 w2 ho;obtain ⟨hg,rfl⟩:=ho.none (msU_none HU.out);have HGN:=Aside0.mk ((HG1.out.alloc _).trans hg);clear hg ho))
            exact ⟨rfl,Out.of_none HM.out HGN.out⟩
           | some r1 =>
            rw [hu] at hm
            simp only at hm
            have HU:=Aside0.mk hu
            clear hu
            cases hx:Ps.expr k 0 r1 with
            | none =>
             rw [hx] at hm
             have HX:=Aside0.mk hx
             clear hx
             have HM:=Aside0.mk hm
             clear hm
             go_enter Tryz.func368,Tryz.ntmps368
             go_wp2_with (first | (go_at_call 258;refine (next_out (HP.out.alloc _)).mono ?_;intro e w1 ho;obtain ⟨hg,v,rfl,rfl,hp⟩:=ho.some HN.out;have BR1:=Aside0.mk (hg.blk (new_blk (W:=w) _ rfl) (by omega));have hs1:w.heap.size < w1.heap.size:=blk_lt BR1.out;have r1c0:w1.cell? ⟨w.heap.size,0,none⟩=some (.string ⟨#[]⟩):=(blk_cell BR1.out 0).trans rfl;have r1c1:w1.cell? ⟨w.heap.size,1,none⟩=some (.int .i64 0):=(blk_cell BR1.out 1).trans rfl;have r1c2:w1.cell? ⟨w.heap.size,2,none⟩=some (.int .i64 0):=(blk_cell BR1.out 2).trans rfl;have r1c3:w1.cell? ⟨w.heap.size,3,none⟩=some (.string ⟨#[]⟩):=(blk_cell BR1.out 3).trans rfl;have r1c4:w1.cell? ⟨w.heap.size,4,none⟩=some (.string ⟨#[]⟩):=(blk_cell BR1.out 4).trans rfl;have r1c5:w1.cell? ⟨w.heap.size,5,none⟩=some (.slice none 0 0):=(blk_cell BR1.out 5).trans rfl;have r1z0:=blk_frozen BR1.out 0;have r1z1:=blk_frozen BR1.out 1;have r1z2:=blk_frozen BR1.out 2;have r1z3:=blk_frozen BR1.out 3;have r1z4:=blk_frozen BR1.out 4;have r1z5:=blk_frozen BR1.out 5;have HQ1:=Aside0.mk hp;have HG1:=Aside0.mk (((Gr.refl g w).alloc _).trans hg);clear hg ho hp) | (go_at_call 259;refine (must1 (HQ1.out.alloc _) (by simp) Ps.sOpen 1).mono ?_;intro e7 w2 ho;obtain ⟨hg,v,rfl,rfl,hp⟩:=ho.some (msU_some HU.out);have BR2:=Aside0.mk (hg.blk (blk_alloc BR1.out _) (by omega));have BT2:=Aside0.mk (hg.blk (new_blk (W:=w1) _ rfl) (by omega));have hs2:=blk_lt BT2.out;have HQ2:=Aside0.mk hp;have HG2:=Aside0.mk ((HG1.out.alloc _).trans hg);clear hg ho hp) | (go_at_call 358;refine (ihE w0 g r1 _ 0 HQ2.out (by have:=(Ps.nx_len HN.out).1;have:=Ps.ms_len HU.out;omega)).mono ?_;intro e9 w3 ho;obtain ⟨hg,rfl⟩:=ho.none HX.out;have HG3:=Aside0.mk (HG2.out.trans hg);clear hg ho))
             exact ⟨rfl,Out.of_none HM.out HG3.out⟩
            | some p =>
             obtain ⟨e,r2⟩:=p
             rw [hx] at hm
             simp only at hm
             have HX:=Aside0.mk hx
             clear hx
             cases hv:Ps.ms [Ps.sClose] r2 with
             | none =>
              rw [hv] at hm
              have HV:=Aside0.mk hv
              clear hv
              have HM:=Aside0.mk hm
              clear hm
              go_enter Tryz.func368,Tryz.ntmps368
              go_wp2_with (first | (go_at_call 258;refine (next_out (HP.out.alloc _)).mono ?_;intro e w1 ho;obtain ⟨hg,v,rfl,rfl,hp⟩:=ho.some HN.out;have BR1:=Aside0.mk (hg.blk (new_blk (W:=w) _ rfl) (by omega));have hs1:w.heap.size < w1.heap.size:=blk_lt BR1.out;have r1c0:w1.cell? ⟨w.heap.size,0,none⟩=some (.string ⟨#[]⟩):=(blk_cell BR1.out 0).trans rfl;have r1c1:w1.cell? ⟨w.heap.size,1,none⟩=some (.int .i64 0):=(blk_cell BR1.out 1).trans rfl;have r1c2:w1.cell? ⟨w.heap.size,2,none⟩=some (.int .i64 0):=(blk_cell BR1.out 2).trans rfl;have r1c3:w1.cell? ⟨w.heap.size,3,none⟩=some (.string ⟨#[]⟩):=(blk_cell BR1.out 3).trans rfl;have r1c4:w1.cell? ⟨w.heap.size,4,none⟩=some (.string ⟨#[]⟩):=(blk_cell BR1.out 4).trans rfl;have r1c5:w1.cell? ⟨w.heap.size,5,none⟩=some (.slice none 0 0):=(blk_cell BR1.out 5).trans rfl;have r1z0:=blk_frozen BR1.out 0;have r1z1:=blk_frozen BR1.out 1;have r1z2:=blk_frozen BR1.out 2;have r1z3:=blk_frozen BR1.out 3;have r1z4:=blk_frozen BR1.out 4;have r1z5:=blk_frozen BR1.out 5;have HQ1:=Aside0.mk hp;have HG1:=Aside0.mk (((Gr.refl g w).alloc _).trans hg);clear hg ho hp) | (go_at_call 259;refine (must1 (HQ1.out.alloc _) (by simp) Ps.sOpen 1).mono ?_;intro e7 w2 ho;obtain ⟨hg,v,rfl,rfl,hp⟩:=ho.some (msU_some HU.out);have BR2:=Aside0.mk (hg.blk (blk_alloc BR1.out _) (by omega));have BT2:=Aside0.mk (hg.blk (new_blk (W:=w1) _ rfl) (by omega));have hs2:=blk_lt BT2.out;have HQ2:=Aside0.mk hp;have HG2:=Aside0.mk ((HG1.out.alloc _).trans hg);clear hg ho hp) | (go_at_call 358;refine (ihE w0 g r1 _ 0 HQ2.out (by have:=(Ps.nx_len HN.out).1;have:=Ps.ms_len HU.out;omega)).mono ?_;intro e9 w3 ho;obtain ⟨hg,v,rfl,hv,hp⟩:=ho.some HX.out;obtain ⟨Ax,nx,rfl,hnx,hfx⟩:=hv;have BR3:=Aside0.mk (hg.blk BR2.out (by omega));have BT3:=Aside0.mk (hg.blk BT2.out (by omega));have hs3:=blk_lt BT3.out;have HQ3:=Aside0.mk hp;have HG3:=Aside0.mk (HG2.out.trans hg);have HNX:=Aside0.mk hnx;have HFX:=Aside0.mk (Kd.F_mono hfx (ok':=fun q => w.heap.size < q) (fun q hq => by have h1:w2.heap.size ≤ q:=hq;omega));clear hg ho hp hnx hfx;unfold cells43) | (go_at_call 259;refine (must1 (HQ3.out.alloc _) (by simp) Ps.sClose 1).mono ?_;intro e7 w4 ho;obtain ⟨hg,rfl⟩:=ho.none (msU_none HV.out);have HGN:=Aside0.mk ((HG3.out.alloc _).trans hg);clear hg ho))
              exact ⟨rfl,Out.of_none HM.out HGN.out⟩
             | some r3 =>
              rw [hv] at hm
              have HV:=Aside0.mk hv
              clear hv
              have HM:=Aside0.mk hm
              clear hm
              go_enter Tryz.func368,Tryz.ntmps368
              go_wp2_with (first | (go_at_call 258;refine (next_out (HP.out.alloc _)).mono ?_;intro e w1 ho;obtain ⟨hg,v,rfl,rfl,hp⟩:=ho.some HN.out;have BR1:=Aside0.mk (hg.blk (new_blk (W:=w) _ rfl) (by omega));have hs1:w.heap.size < w1.heap.size:=blk_lt BR1.out;have r1c0:w1.cell? ⟨w.heap.size,0,none⟩=some (.string ⟨#[]⟩):=(blk_cell BR1.out 0).trans rfl;have r1c1:w1.cell? ⟨w.heap.size,1,none⟩=some (.int .i64 0):=(blk_cell BR1.out 1).trans rfl;have r1c2:w1.cell? ⟨w.heap.size,2,none⟩=some (.int .i64 0):=(blk_cell BR1.out 2).trans rfl;have r1c3:w1.cell? ⟨w.heap.size,3,none⟩=some (.string ⟨#[]⟩):=(blk_cell BR1.out 3).trans rfl;have r1c4:w1.cell? ⟨w.heap.size,4,none⟩=some (.string ⟨#[]⟩):=(blk_cell BR1.out 4).trans rfl;have r1c5:w1.cell? ⟨w.heap.size,5,none⟩=some (.slice none 0 0):=(blk_cell BR1.out 5).trans rfl;have r1z0:=blk_frozen BR1.out 0;have r1z1:=blk_frozen BR1.out 1;have r1z2:=blk_frozen BR1.out 2;have r1z3:=blk_frozen BR1.out 3;have r1z4:=blk_frozen BR1.out 4;have r1z5:=blk_frozen BR1.out 5;have HQ1:=Aside0.mk hp;have HG1:=Aside0.mk (((Gr.refl g w).alloc _).trans hg);clear hg ho hp) | (go_at_call 259;refine (must1 (HQ1.out.alloc _) (by simp) Ps.sOpen 1).mono ?_;intro e7 w2 ho;obtain ⟨hg,v,rfl,rfl,hp⟩:=ho.some (msU_some HU.out);have BR2:=Aside0.mk (hg.blk (blk_alloc BR1.out _) (by omega));have BT2:=Aside0.mk (hg.blk (new_blk (W:=w1) _ rfl) (by omega));have hs2:=blk_lt BT2.out;have HQ2:=Aside0.mk hp;have HG2:=Aside0.mk ((HG1.out.alloc _).trans hg);clear hg ho hp) | (go_at_call 358;refine (ihE w0 g r1 _ 0 HQ2.out (by have:=(Ps.nx_len HN.out).1;have:=Ps.ms_len HU.out;omega)).mono ?_;intro e9 w3 ho;obtain ⟨hg,v,rfl,hv,hp⟩:=ho.some HX.out;obtain ⟨Ax,nx,rfl,hnx,hfx⟩:=hv;have BR3:=Aside0.mk (hg.blk BR2.out (by omega));have BT3:=Aside0.mk (hg.blk BT2.out (by omega));have hs3:=blk_lt BT3.out;have HQ3:=Aside0.mk hp;have HG3:=Aside0.mk (HG2.out.trans hg);have HNX:=Aside0.mk hnx;have HFX:=Aside0.mk (Kd.F_mono hfx (ok':=fun q => w.heap.size < q) (fun q hq => by have h1:w2.heap.size ≤ q:=hq;omega));clear hg ho hp hnx hfx;unfold cells43) | (go_at_call 259;refine (must1 (HQ3.out.alloc _) (by simp) Ps.sClose 1).mono ?_;intro e7 w4 ho;obtain ⟨hg,v,rfl,rfl,hp⟩:=ho.some (msU_some HV.out);have BR4:=Aside0.mk (hg.blk (blk_alloc BR3.out _) (by omega));have r4c0:w4.cell? ⟨w.heap.size,0,none⟩=some (.string ⟨#[]⟩):=(blk_cell BR4.out 0).trans rfl;have r4c1:w4.cell? ⟨w.heap.size,1,none⟩=some (.int .i64 0):=(blk_cell BR4.out 1).trans rfl;have r4c2:w4.cell? ⟨w.heap.size,2,none⟩=some (.int .i64 0):=(blk_cell BR4.out 2).trans rfl;have r4c3:w4.cell? ⟨w.heap.size,3,none⟩=some (.string ⟨#[]⟩):=(blk_cell BR4.out 3).trans rfl;have r4c4:w4.cell? ⟨w.heap.size,4,none⟩=some (.string ⟨#[]⟩):=(blk_cell BR4.out 4).trans rfl;have r4c5:w4.cell? ⟨w.heap.size,5,none⟩=some (.slice none 0 0):=(blk_cell BR4.out 5).trans rfl;have r4z0:=blk_frozen BR4.out 0;have r4z1:=blk_frozen BR4.out 1;have r4z2:=blk_frozen BR4.out 2;have r4z3:=blk_frozen BR4.out 3;have r4z4:=blk_frozen BR4.out 4;have r4z5:=blk_frozen BR4.out 5;have BT4:=Aside0.mk (hg.blk (blk_alloc BT3.out _) (by omega));have t4c0:w4.cell? ⟨w1.heap.size,0,none⟩=some (.int .i64 t.f0):=(blk_cell BT4.out 0).trans rfl;have t4c1:w4.cell? ⟨w1.heap.size,1,none⟩=some (.string t.f1):=(blk_cell BT4.out 1).trans rfl;have t4c2:w4.cell? ⟨w1.heap.size,2,none⟩=some (.int .i64 t.f2):=(blk_cell BT4.out 2).trans rfl;have BE4:=Aside0.mk (hg.blk (new_blk (W:=w3) _ rfl) (by omega));have e4c0:w4.cell? ⟨w3.heap.size,0,none⟩=some (.string e.f0):=(blk_cell BE4.out 0).trans rfl;have e4c1:w4.cell? ⟨w3.heap.size,1,none⟩=some (.int .i64 e.f1.f0):=(blk_cell BE4.out 1).trans rfl;have e4c2:w4.cell? ⟨w3.heap.size,2,none⟩=some (.int .i64 e.f1.f1):=(blk_cell BE4.out 2).trans rfl;have e4c3:w4.cell? ⟨w3.heap.size,3,none⟩=some (.string e.f1.f2):=(blk_cell BE4.out 3).trans rfl;have e4c4:w4.cell? ⟨w3.heap.size,4,none⟩=some (.string e.f2):=(blk_cell BE4.out 4).trans rfl;have e4c5:w4.cell? ⟨w3.heap.size,5,none⟩=some (.slice Ax e.f3.length nx):=(blk_cell BE4.out 5).trans rfl;have hs4:w.heap.size < w4.heap.size:=blk_lt BR4.out;have ht4:w1.heap.size < w4.heap.size:=blk_lt BT4.out;have he4:w3.heap.size < w4.heap.size:=blk_lt BE4.out;have HQ4:=Aside0.mk hp;have HG4:=Aside0.mk ((HG3.out.alloc _).trans hg);have HFX4:=Aside0.mk (hg.F (Kd.F_alloc HFX.out _) (fun q hq => by have h1:w.heap.size < q:=hq;omega));clear hg ho hp HFX;have HFX:=HFX4;clear HFX4) | (go_at_call 369;refine (op_calls _ _ _ _ _).mono ?_;rintro e8 w8 ⟨rfl,o8,rfl⟩))
              refine bodyPost_ret (v:=.agg (cells43 (Ps.op t.f1 [e]) (some ⟨w4.heap.size,0,none⟩) 1).toArray) ?_ rfl ?_
              ·simp [results,Tryz.results368,go_sem,cells43,r4c0,r4z0,r4c1,r4z1,r4c2,r4z2,r4c3,r4z3,r4c4,r4z4,r4c5,r4z5,hs4] <;> exact ⟨rfl,rfl,rfl,rfl,rfl,rfl⟩
              ·refine Out.of_some HM.out ?_ ⟨some ⟨w4.heap.size,0,none⟩,1,rfl,Nat.le_refl _,?_⟩ ?_
               ·with_reducible (repeat (first | exact HG4.out | refine Gr.setB ?_ (Nat.le_refl _) _ _ | apply Gr.alloc | apply Gr.drewN))
               ·refine F_one (x:=e) (A:=Ax) (c:=nx) ?_ (by omega) HNX.out ?_
                ·exact blk_alloc (new_blk _ (by simp)) _
                ·refine Kd.F_mono (ok:=fun q => w.heap.size < q) ?_ (fun q hq => Nat.le_of_lt hq)
                 with_reducible (repeat (first | exact HFX.out | refine Kd.F_far ?_ (fun q hq => Nat.ne_of_gt hq) _ | apply Kd.F_alloc))
               ·with_reducible (repeat (first | exact HQ4.out | refine PS.setB ?_ (by omega) (by omega) _ _ | apply PS.alloc | apply PS.drewN))
          ·by_cases m8:t.f1.toList=Ps.sMax.toList
           ·rw [if_pos (Or.inr (Or.inr m8))] at hm
            rw [wMax] at m8
            rw [wSum] at m6
            rw [wMin] at m7
            have q6:(t.f1.toList == [115,117,109])=false:=beq_eq_false_iff_ne.mpr m6
            have q7:(t.f1.toList == [109,105,110])=false:=beq_eq_false_iff_ne.mpr m7
            have q8:(t.f1.toList == [109,97,120])=true:=beq_iff_eq.mpr m8
            clear m6 m7 m8
            cases hu:Ps.ms [Ps.sOpen] r with
            | none =>
             rw [hu] at hm
             have HU:=Aside0.mk hu
             clear hu
             have HM:=Aside0.mk hm
             clear hm
             go_enter Tryz.func368,Tryz.ntmps368
             go_wp2_with (first | (go_at_call 258;refine (next_out (HP.out.alloc _)).mono ?_;intro e w1 ho;obtain ⟨hg,v,rfl,rfl,hp⟩:=ho.some HN.out;have BR1:=Aside0.mk (hg.blk (new_blk (W:=w) _ rfl) (by omega));have hs1:w.heap.size < w1.heap.size:=blk_lt BR1.out;have r1c0:w1.cell? ⟨w.heap.size,0,none⟩=some (.string ⟨#[]⟩):=(blk_cell BR1.out 0).trans rfl;have r1c1:w1.cell? ⟨w.heap.size,1,none⟩=some (.int .i64 0):=(blk_cell BR1.out 1).trans rfl;have r1c2:w1.cell? ⟨w.heap.size,2,none⟩=some (.int .i64 0):=(blk_cell BR1.out 2).trans rfl;have r1c3:w1.cell? ⟨w.heap.size,3,none⟩=some (.string ⟨#[]⟩):=(blk_cell BR1.out 3).trans rfl;have r1c4:w1.cell? ⟨w.heap.size,4,none⟩=some (.string ⟨#[]⟩):=(blk_cell BR1.out 4).trans rfl;have r1c5:w1.cell? ⟨w.heap.size,5,none⟩=some (.slice none 0 0):=(blk_cell BR1.out 5).trans rfl;have r1z0:=blk_frozen BR1.out 0;have r1z1:=blk_frozen BR1.out 1;have r1z2:=blk_frozen BR1.out 2;have r1z3:=blk_frozen BR1.out 3;have r1z4:=blk_frozen BR1.out 4;have r1z5:=blk_frozen BR1.out 5;have HQ1:=Aside0.mk hp;have HG1:=Aside0.mk (((Gr.refl g w).alloc _).trans hg);clear hg ho hp) | (go_at_call 259;refine (must1 (HQ1.out.alloc _) (by simp) Ps.sOpen 1).mono ?_;intro e7 w2 ho;obtain ⟨hg,rfl⟩:=ho.none (msU_none HU.out);have HGN:=Aside0.mk ((HG1.out.alloc _).trans hg);clear hg ho))
             exact ⟨rfl,Out.of_none HM.out HGN.out⟩
            | some r1 =>
             rw [hu] at hm
             simp only at hm
             have HU:=Aside0.mk hu
             clear hu
             cases hx:Ps.expr k 0 r1 with
             | none =>
              rw [hx] at hm
              have HX:=Aside0.mk hx
              clear hx
              have HM:=Aside0.mk hm
              clear hm
              go_enter Tryz.func368,Tryz.ntmps368
              go_wp2_with (first | (go_at_call 258;refine (next_out (HP.out.alloc _)).mono ?_;intro e w1 ho;obtain ⟨hg,v,rfl,rfl,hp⟩:=ho.some HN.out;have BR1:=Aside0.mk (hg.blk (new_blk (W:=w) _ rfl) (by omega));have hs1:w.heap.size < w1.heap.size:=blk_lt BR1.out;have r1c0:w1.cell? ⟨w.heap.size,0,none⟩=some (.string ⟨#[]⟩):=(blk_cell BR1.out 0).trans rfl;have r1c1:w1.cell? ⟨w.heap.size,1,none⟩=some (.int .i64 0):=(blk_cell BR1.out 1).trans rfl;have r1c2:w1.cell? ⟨w.heap.size,2,none⟩=some (.int .i64 0):=(blk_cell BR1.out 2).trans rfl;have r1c3:w1.cell? ⟨w.heap.size,3,none⟩=some (.string ⟨#[]⟩):=(blk_cell BR1.out 3).trans rfl;have r1c4:w1.cell? ⟨w.heap.size,4,none⟩=some (.string ⟨#[]⟩):=(blk_cell BR1.out 4).trans rfl;have r1c5:w1.cell? ⟨w.heap.size,5,none⟩=some (.slice none 0 0):=(blk_cell BR1.out 5).trans rfl;have r1z0:=blk_frozen BR1.out 0;have r1z1:=blk_frozen BR1.out 1;have r1z2:=blk_frozen BR1.out 2;have r1z3:=blk_frozen BR1.out 3;have r1z4:=blk_frozen BR1.out 4;have r1z5:=blk_frozen BR1.out 5;have HQ1:=Aside0.mk hp;have HG1:=Aside0.mk (((Gr.refl g w).alloc _).trans hg);clear hg ho hp) | (go_at_call 259;refine (must1 (HQ1.out.alloc _) (by simp) Ps.sOpen 1).mono ?_;intro e7 w2 ho;obtain ⟨hg,v,rfl,rfl,hp⟩:=ho.some (msU_some HU.out);have BR2:=Aside0.mk (hg.blk (blk_alloc BR1.out _) (by omega));have BT2:=Aside0.mk (hg.blk (new_blk (W:=w1) _ rfl) (by omega));have hs2:=blk_lt BT2.out;have HQ2:=Aside0.mk hp;have HG2:=Aside0.mk ((HG1.out.alloc _).trans hg);clear hg ho hp) | (go_at_call 358;refine (ihE w0 g r1 _ 0 HQ2.out (by have:=(Ps.nx_len HN.out).1;have:=Ps.ms_len HU.out;omega)).mono ?_;intro e9 w3 ho;obtain ⟨hg,rfl⟩:=ho.none HX.out;have HG3:=Aside0.mk (HG2.out.trans hg);clear hg ho))
              exact ⟨rfl,Out.of_none HM.out HG3.out⟩
             | some p =>
              obtain ⟨e,r2⟩:=p
              rw [hx] at hm
              simp only at hm
              have HX:=Aside0.mk hx
              clear hx
              cases hv:Ps.ms [Ps.sClose] r2 with
              | none =>
               rw [hv] at hm
               have HV:=Aside0.mk hv
               clear hv
               have HM:=Aside0.mk hm
               clear hm
               go_enter Tryz.func368,Tryz.ntmps368
               go_wp2_with (first | (go_at_call 258;refine (next_out (HP.out.alloc _)).mono ?_;intro e w1 ho;obtain ⟨hg,v,rfl,rfl,hp⟩:=ho.some HN.out;have BR1:=Aside0.mk (hg.blk (new_blk (W:=w) _ rfl) (by omega));have hs1:w.heap.size < w1.heap.size:=blk_lt BR1.out;have r1c0:w1.cell? ⟨w.heap.size,0,none⟩=some (.string ⟨#[]⟩):=(blk_cell BR1.out 0).trans rfl;have r1c1:w1.cell? ⟨w.heap.size,1,none⟩=some (.int .i64 0):=(blk_cell BR1.out 1).trans rfl;have r1c2:w1.cell? ⟨w.heap.size,2,none⟩=some (.int .i64 0):=(blk_cell BR1.out 2).trans rfl;have r1c3:w1.cell? ⟨w.heap.size,3,none⟩=some (.string ⟨#[]⟩):=(blk_cell BR1.out 3).trans rfl;have r1c4:w1.cell? ⟨w.heap.size,4,none⟩=some (.string ⟨#[]⟩):=(blk_cell BR1.out 4).trans rfl;have r1c5:w1.cell? ⟨w.heap.size,5,none⟩=some (.slice none 0 0):=(blk_cell BR1.out 5).trans rfl;have r1z0:=blk_frozen BR1.out 0;have r1z1:=blk_frozen BR1.out 1;have r1z2:=blk_frozen BR1.out 2;have r1z3:=blk_frozen BR1.out 3;have r1z4:=blk_frozen BR1.out 4;have r1z5:=blk_frozen BR1.out 5;have HQ1:=Aside0.mk hp;have HG1:=Aside0.mk (((Gr.refl g w).alloc _).trans hg);clear hg ho hp) | (go_at_call 259;refine (must1 (HQ1.out.alloc _) (by simp) Ps.sOpen 1).mono ?_;intro e7 w2 ho;obtain ⟨hg,v,rfl,rfl,hp⟩:=ho.some (msU_some HU.out);have BR2:=Aside0.mk (hg.blk (blk_alloc BR1.out _) (by omega));have BT2:=Aside0.mk (hg.blk (new_blk (W:=w1) _ rfl) (by omega));have hs2:=blk_lt BT2.out;have HQ2:=Aside0.mk hp;have HG2:=Aside0.mk ((HG1.out.alloc _).trans hg);clear hg ho hp) | (go_at_call 358;refine (ihE w0 g r1 _ 0 HQ2.out (by have:=(Ps.nx_len HN.out).1;have:=Ps.ms_len HU.out;omega)).mono ?_;intro e9 w3 ho;obtain ⟨hg,v,rfl,hv,hp⟩:=ho.some HX.out;obtain ⟨Ax,nx,rfl,hnx,hfx⟩:=hv;have BR3:=Aside0.mk (hg.blk BR2.out (by omega));have BT3:=Aside0.mk (hg.blk BT2.out (by omega));have hs3:=blk_lt BT3.out;have HQ3:=Aside0.mk hp;have HG3:=Aside0.mk (HG2.out.trans hg);have HNX:=Aside0.mk hnx;have HFX:=Aside0.mk (Kd.F_mono hfx (ok':=fun q => w.heap.size < q) (fun q hq => by have h1:w2.heap.size ≤ q:=hq;omega));clear hg ho hp hnx hfx;unfold cells43) | (go_at_call 259;refine (must1 (HQ3.out.alloc _) (by simp) Ps.sClose 1).mono ?_;intro e7 w4 ho;obtain ⟨hg,rfl⟩:=ho.none (msU_none HV.out);have HGN:=Aside0.mk ((HG3.out.alloc _).trans hg);clear hg ho))
               exact ⟨rfl,Out.of_none HM.out HGN.out⟩
              | some r3 =>
               rw [hv] at hm
               have HV:=Aside0.mk hv
               clear hv
               have HM:=Aside0.mk hm
               clear hm
               go_enter Tryz.func368,Tryz.ntmps368
               go_wp2_with (first | (go_at_call 258;refine (next_out (HP.out.alloc _)).mono ?_;intro e w1 ho;obtain ⟨hg,v,rfl,rfl,hp⟩:=ho.some HN.out;have BR1:=Aside0.mk (hg.blk (new_blk (W:=w) _ rfl) (by omega));have hs1:w.heap.size < w1.heap.size:=blk_lt BR1.out;have r1c0:w1.cell? ⟨w.heap.size,0,none⟩=some (.string ⟨#[]⟩):=(blk_cell BR1.out 0).trans rfl;have r1c1:w1.cell? ⟨w.heap.size,1,none⟩=some (.int .i64 0):=(blk_cell BR1.out 1).trans rfl;have r1c2:w1.cell? ⟨w.heap.size,2,none⟩=some (.int .i64 0):=(blk_cell BR1.out 2).trans rfl;have r1c3:w1.cell? ⟨w.heap.size,3,none⟩=some (.string ⟨#[]⟩):=(blk_cell BR1.out 3).trans rfl;have r1c4:w1.cell? ⟨w.heap.size,4,none⟩=some (.string ⟨#[]⟩):=(blk_cell BR1.out 4).trans rfl;have r1c5:w1.cell? ⟨w.heap.size,5,none⟩=some (.slice none 0 0):=(blk_cell BR1.out 5).trans rfl;have r1z0:=blk_frozen BR1.out 0;have r1z1:=blk_frozen BR1.out 1;have r1z2:=blk_frozen BR1.out 2;have r1z3:=blk_frozen BR1.out 3;have r1z4:=blk_frozen BR1.out 4;have r1z5:=blk_frozen BR1.out 5;have HQ1:=Aside0.mk hp;have HG1:=Aside0.mk (((Gr.refl g w).alloc _).trans hg);clear hg ho hp) | (go_at_call 259;refine (must1 (HQ1.out.alloc _) (by simp) Ps.sOpen 1).mono ?_;intro e7 w2 ho;obtain ⟨hg,v,rfl,rfl,hp⟩:=ho.some (msU_some HU.out);have BR2:=Aside0.mk (hg.blk (blk_alloc BR1.out _) (by omega));have BT2:=Aside0.mk (hg.blk (new_blk (W:=w1) _ rfl) (by omega));have hs2:=blk_lt BT2.out;have HQ2:=Aside0.mk hp;have HG2:=Aside0.mk ((HG1.out.alloc _).trans hg);clear hg ho hp) | (go_at_call 358;refine (ihE w0 g r1 _ 0 HQ2.out (by have:=(Ps.nx_len HN.out).1;have:=Ps.ms_len HU.out;omega)).mono ?_;intro e9 w3 ho;obtain ⟨hg,v,rfl,hv,hp⟩:=ho.some HX.out;obtain ⟨Ax,nx,rfl,hnx,hfx⟩:=hv;have BR3:=Aside0.mk (hg.blk BR2.out (by omega));have BT3:=Aside0.mk (hg.blk BT2.out (by omega));have hs3:=blk_lt BT3.out;have HQ3:=Aside0.mk hp;have HG3:=Aside0.mk (HG2.out.trans hg);have HNX:=Aside0.mk hnx;have HFX:=Aside0.mk (Kd.F_mono hfx (ok':=fun q => w.heap.size < q) (fun q hq => by have h1:w2.heap.size ≤ q:=hq;omega));clear hg ho hp hnx hfx;unfold cells43) | (go_at_call 259;refine (must1 (HQ3.out.alloc _) (by simp) Ps.sClose 1).mono ?_;intro e7 w4 ho;obtain ⟨hg,v,rfl,rfl,hp⟩:=ho.some (msU_some HV.out);have BR4:=Aside0.mk (hg.blk (blk_alloc BR3.out _) (by omega));have r4c0:w4.cell? ⟨w.heap.size,0,none⟩=some (.string ⟨#[]⟩):=(blk_cell BR4.out 0).trans rfl;have r4c1:w4.cell? ⟨w.heap.size,1,none⟩=some (.int .i64 0):=(blk_cell BR4.out 1).trans rfl;have r4c2:w4.cell? ⟨w.heap.size,2,none⟩=some (.int .i64 0):=(blk_cell BR4.out 2).trans rfl;have r4c3:w4.cell? ⟨w.heap.size,3,none⟩=some (.string ⟨#[]⟩):=(blk_cell BR4.out 3).trans rfl;have r4c4:w4.cell? ⟨w.heap.size,4,none⟩=some (.string ⟨#[]⟩):=(blk_cell BR4.out 4).trans rfl;have r4c5:w4.cell? ⟨w.heap.size,5,none⟩=some (.slice none 0 0):=(blk_cell BR4.out 5).trans rfl;have r4z0:=blk_frozen BR4.out 0;have r4z1:=blk_frozen BR4.out 1;have r4z2:=blk_frozen BR4.out 2;have r4z3:=blk_frozen BR4.out 3;have r4z4:=blk_frozen BR4.out 4;have r4z5:=blk_frozen BR4.out 5;have BT4:=Aside0.mk (hg.blk (blk_alloc BT3.out _) (by omega));have t4c0:w4.cell? ⟨w1.heap.size,0,none⟩=some (.int .i64 t.f0):=(blk_cell BT4.out 0).trans rfl;have t4c1:w4.cell? ⟨w1.heap.size,1,none⟩=some (.string t.f1):=(blk_cell BT4.out 1).trans rfl;have t4c2:w4.cell? ⟨w1.heap.size,2,none⟩=some (.int .i64 t.f2):=(blk_cell BT4.out 2).trans rfl;have BE4:=Aside0.mk (hg.blk (new_blk (W:=w3) _ rfl) (by omega));have e4c0:w4.cell? ⟨w3.heap.size,0,none⟩=some (.string e.f0):=(blk_cell BE4.out 0).trans rfl;have e4c1:w4.cell? ⟨w3.heap.size,1,none⟩=some (.int .i64 e.f1.f0):=(blk_cell BE4.out 1).trans rfl;have e4c2:w4.cell? ⟨w3.heap.size,2,none⟩=some (.int .i64 e.f1.f1):=(blk_cell BE4.out 2).trans rfl;have e4c3:w4.cell? ⟨w3.heap.size,3,none⟩=some (.string e.f1.f2):=(blk_cell BE4.out 3).trans rfl;have e4c4:w4.cell? ⟨w3.heap.size,4,none⟩=some (.string e.f2):=(blk_cell BE4.out 4).trans rfl;have e4c5:w4.cell? ⟨w3.heap.size,5,none⟩=some (.slice Ax e.f3.length nx):=(blk_cell BE4.out 5).trans rfl;have hs4:w.heap.size < w4.heap.size:=blk_lt BR4.out;have ht4:w1.heap.size < w4.heap.size:=blk_lt BT4.out;have he4:w3.heap.size < w4.heap.size:=blk_lt BE4.out;have HQ4:=Aside0.mk hp;have HG4:=Aside0.mk ((HG3.out.alloc _).trans hg);have HFX4:=Aside0.mk (hg.F (Kd.F_alloc HFX.out _) (fun q hq => by have h1:w.heap.size < q:=hq;omega));clear hg ho hp HFX;have HFX:=HFX4;clear HFX4) | (go_at_call 369;refine (op_calls _ _ _ _ _).mono ?_;rintro e8 w8 ⟨rfl,o8,rfl⟩))
               refine bodyPost_ret (v:=.agg (cells43 (Ps.op t.f1 [e]) (some ⟨w4.heap.size,0,none⟩) 1).toArray) ?_ rfl ?_
               ·simp [results,Tryz.results368,go_sem,cells43,r4c0,r4z0,r4c1,r4z1,r4c2,r4z2,r4c3,r4z3,r4c4,r4z4,r4c5,r4z5,hs4] <;> exact ⟨rfl,rfl,rfl,rfl,rfl,rfl⟩
               ·refine Out.of_some HM.out ?_ ⟨some ⟨w4.heap.size,0,none⟩,1,rfl,Nat.le_refl _,?_⟩ ?_
                ·with_reducible (repeat (first | exact HG4.out | refine Gr.setB ?_ (Nat.le_refl _) _ _ | apply Gr.alloc | apply Gr.drewN))
                ·refine F_one (x:=e) (A:=Ax) (c:=nx) ?_ (by omega) HNX.out ?_
                 ·exact blk_alloc (new_blk _ (by simp)) _
                 ·refine Kd.F_mono (ok:=fun q => w.heap.size < q) ?_ (fun q hq => Nat.le_of_lt hq)
                  with_reducible (repeat (first | exact HFX.out | refine Kd.F_far ?_ (fun q hq => Nat.ne_of_gt hq) _ | apply Kd.F_alloc))
                ·with_reducible (repeat (first | exact HQ4.out | refine PS.setB ?_ (by omega) (by omega) _ _ | apply PS.alloc | apply PS.drewN))
           ·rw [if_neg (by rintro (h | h | h) <;> contradiction)] at hm
            rw [wMax] at m8
            rw [wSum] at m6
            rw [wMin] at m7
            have q6:(t.f1.toList == [115,117,109])=false:=beq_eq_false_iff_ne.mpr m6
            have q7:(t.f1.toList == [109,105,110])=false:=beq_eq_false_iff_ne.mpr m7
            have q8:(t.f1.toList == [109,97,120])=false:=beq_eq_false_iff_ne.mpr m8
            clear m6 m7 m8
            by_cases k1:t.f0=1
            ·rw [if_pos k1] at hm
             have b1:(t.f0 != 1)=false:=bne_eq_false_iff_eq.mpr k1
             have RS:=Aside0.mk (reserved_is t.f1)
             cases hr:Ps.reserved t.f1 with
             | true =>
              rw [hr] at hm RS
              rw [if_pos rfl] at hm
              clear hr
              have HM:=Aside0.mk hm
              clear hm
              go_enter Tryz.func368,Tryz.ntmps368
              go_wp2_with (first | (go_at_call 258;refine (next_out (HP.out.alloc _)).mono ?_;intro e w1 ho;obtain ⟨hg,v,rfl,rfl,hp⟩:=ho.some HN.out;have BR1:=Aside0.mk (hg.blk (new_blk (W:=w) _ rfl) (by omega));have hs1:w.heap.size < w1.heap.size:=blk_lt BR1.out;have r1c0:w1.cell? ⟨w.heap.size,0,none⟩=some (.string ⟨#[]⟩):=(blk_cell BR1.out 0).trans rfl;have r1c1:w1.cell? ⟨w.heap.size,1,none⟩=some (.int .i64 0):=(blk_cell BR1.out 1).trans rfl;have r1c2:w1.cell? ⟨w.heap.size,2,none⟩=some (.int .i64 0):=(blk_cell BR1.out 2).trans rfl;have r1c3:w1.cell? ⟨w.heap.size,3,none⟩=some (.string ⟨#[]⟩):=(blk_cell BR1.out 3).trans rfl;have r1c4:w1.cell? ⟨w.heap.size,4,none⟩=some (.string ⟨#[]⟩):=(blk_cell BR1.out 4).trans rfl;have r1c5:w1.cell? ⟨w.heap.size,5,none⟩=some (.slice none 0 0):=(blk_cell BR1.out 5).trans rfl;have r1z0:=blk_frozen BR1.out 0;have r1z1:=blk_frozen BR1.out 1;have r1z2:=blk_frozen BR1.out 2;have r1z3:=blk_frozen BR1.out 3;have r1z4:=blk_frozen BR1.out 4;have r1z5:=blk_frozen BR1.out 5;have HQ1:=Aside0.mk hp;have HG1:=Aside0.mk (((Gr.refl g w).alloc _).trans hg);clear hg ho hp) | (go_at_call 324;refine (parse_reserved.calls _ _ _ RS.out).mono ?_;rintro e8 w8 ⟨rfl,⟨nd,rfl⟩⟩) | (go_at_call 264;refine (fail_calls g _).mono ?_;rintro e8 w8 ⟨rfl,rfl⟩))
              exact ⟨rfl,Out.of_none HM.out ((HG1.out.alloc _).drewN _)⟩
             | false =>
              rw [hr] at hm RS
              rw [if_neg (by simp)] at hm
              clear hr
              have HM:=Aside0.mk hm
              clear hm
              go_enter Tryz.func368,Tryz.ntmps368
              go_wp2_with (first | (go_at_call 258;refine (next_out (HP.out.alloc _)).mono ?_;intro e w1 ho;obtain ⟨hg,v,rfl,rfl,hp⟩:=ho.some HN.out;have BR1:=Aside0.mk (hg.blk (new_blk (W:=w) _ rfl) (by omega));have hs1:w.heap.size < w1.heap.size:=blk_lt BR1.out;have r1c0:w1.cell? ⟨w.heap.size,0,none⟩=some (.string ⟨#[]⟩):=(blk_cell BR1.out 0).trans rfl;have r1c1:w1.cell? ⟨w.heap.size,1,none⟩=some (.int .i64 0):=(blk_cell BR1.out 1).trans rfl;have r1c2:w1.cell? ⟨w.heap.size,2,none⟩=some (.int .i64 0):=(blk_cell BR1.out 2).trans rfl;have r1c3:w1.cell? ⟨w.heap.size,3,none⟩=some (.string ⟨#[]⟩):=(blk_cell BR1.out 3).trans rfl;have r1c4:w1.cell? ⟨w.heap.size,4,none⟩=some (.string ⟨#[]⟩):=(blk_cell BR1.out 4).trans rfl;have r1c5:w1.cell? ⟨w.heap.size,5,none⟩=some (.slice none 0 0):=(blk_cell BR1.out 5).trans rfl;have r1z0:=blk_frozen BR1.out 0;have r1z1:=blk_frozen BR1.out 1;have r1z2:=blk_frozen BR1.out 2;have r1z3:=blk_frozen BR1.out 3;have r1z4:=blk_frozen BR1.out 4;have r1z5:=blk_frozen BR1.out 5;have HQ1:=Aside0.mk hp;have HG1:=Aside0.mk (((Gr.refl g w).alloc _).trans hg);clear hg ho hp) | (go_at_call 324;refine (parse_reserved.calls _ _ _ RS.out).mono ?_;rintro e8 w8 ⟨rfl,⟨nd,rfl⟩⟩))
              refine bodyPost_ret (v:=.agg (cells43 (⟨Ps.sCol,Ps.v0,t.f1,[]⟩) (none) 0).toArray) ?_ rfl ?_
              ·simp [results,Tryz.results368,go_sem,cells43,r1c0,r1z0,r1c1,r1z1,r1c2,r1z2,r1c3,r1z3,r1c4,r1z4,r1c5,r1z5,hs1] <;> exact ⟨rfl,rfl,rfl,rfl,rfl,rfl⟩
              ·refine Out.of_some HM.out ?_ ⟨none,0,rfl,Nat.le_refl _,?_⟩ ?_
               ·with_reducible (repeat (first | exact HG1.out | refine Gr.setB ?_ (Nat.le_refl _) _ _ | apply Gr.alloc | apply Gr.drewN))
               ·exact Kd.F_nil _ _ _
               ·with_reducible (repeat (first | exact HQ1.out | refine PS.setB ?_ (by omega) (by omega) _ _ | apply PS.alloc | apply PS.drewN))
            ·rw [if_neg k1] at hm
             have b1:(t.f0 != 1)=true:=bne_iff_ne.mpr k1
             have HM:=Aside0.mk hm
             clear hm
             go_enter Tryz.func368,Tryz.ntmps368
             go_wp2_with (first | (go_at_call 258;refine (next_out (HP.out.alloc _)).mono ?_;intro e w1 ho;obtain ⟨hg,v,rfl,rfl,hp⟩:=ho.some HN.out;have BR1:=Aside0.mk (hg.blk (new_blk (W:=w) _ rfl) (by omega));have hs1:w.heap.size < w1.heap.size:=blk_lt BR1.out;have r1c0:w1.cell? ⟨w.heap.size,0,none⟩=some (.string ⟨#[]⟩):=(blk_cell BR1.out 0).trans rfl;have r1c1:w1.cell? ⟨w.heap.size,1,none⟩=some (.int .i64 0):=(blk_cell BR1.out 1).trans rfl;have r1c2:w1.cell? ⟨w.heap.size,2,none⟩=some (.int .i64 0):=(blk_cell BR1.out 2).trans rfl;have r1c3:w1.cell? ⟨w.heap.size,3,none⟩=some (.string ⟨#[]⟩):=(blk_cell BR1.out 3).trans rfl;have r1c4:w1.cell? ⟨w.heap.size,4,none⟩=some (.string ⟨#[]⟩):=(blk_cell BR1.out 4).trans rfl;have r1c5:w1.cell? ⟨w.heap.size,5,none⟩=some (.slice none 0 0):=(blk_cell BR1.out 5).trans rfl;have r1z0:=blk_frozen BR1.out 0;have r1z1:=blk_frozen BR1.out 1;have r1z2:=blk_frozen BR1.out 2;have r1z3:=blk_frozen BR1.out 3;have r1z4:=blk_frozen BR1.out 4;have r1z5:=blk_frozen BR1.out 5;have HQ1:=Aside0.mk hp;have HG1:=Aside0.mk (((Gr.refl g w).alloc _).trans hg);clear hg ho hp) | (go_at_call 264;refine (fail_calls g _).mono ?_;rintro e8 w8 ⟨rfl,rfl⟩))
             exact ⟨rfl,Out.of_none HM.out (HG1.out.alloc _)⟩
theorem expr_first (k:Nat):(∀ j,j ≤ k → ExprAt j)∧(∀ j,j ≤ k → FirstAt j):=by
 induction k with
 | zero =>
  refine ⟨fun j hj => ?_,fun j hj => ?_⟩
  ·obtain rfl:j=0:=by omega
   intro w0 g ts w least hp hk
   omega
  ·obtain rfl:j=0:=by omega
   intro w0 g ts w hp hk
   obtain ⟨t,r,rfl⟩:=hp.ends.cons
   simp at hk
 | succ k ih =>
  refine ⟨fun j hj => ?_,fun j hj => ?_⟩
  ·rcases Nat.lt_or_ge j (k + 1) with h | h
   ·exact ih.1 j (by omega)
   ·obtain rfl:j=k + 1:=by omega
    exact expr_step k ih.1 (ih.2 k (Nat.le_refl _))
  ·rcases Nat.lt_or_ge j (k + 1) with h | h
   ·exact ih.2 j (by omega)
   ·obtain rfl:j=k + 1:=by omega
    exact first_step k (ih.1 k (Nat.le_refl _))
theorem expr_out {w0 w:World} {g:Nat} {ts:List S32} (h:PS w0 g ts w) (least:Int) {k:Nat} (hk:2 * ts.length + 1 ≤ k):Calls Tryz.prog 358 #[.pointer (some ⟨g,0,none⟩),.int .i64 least] w (Out w0 g (Vex w.heap.size) w (Ps.expr k least ts)) :=
 (expr_first k).1 k (Nat.le_refl _) w0 g ts w least h hk
end Go.Proofs.YtcgdncpioafbdaaGreatDoor.Q
namespace Go.Proofs.YtcgdncpioafbdaaGreatDoor.Q
open Go Go.RowKit Go.Proofs.YtcgdncpioafbdaaGreatDoorW.PrintWords
structure Gs (S:Nat → Prop) (w w':World):Prop where
 os:w'.os=w.os
 tape:w'.tape=w.tape
 output:w'.output=w.output
 size:w.heap.size ≤ w'.heap.size
 block:∀ i,i < w.heap.size → ¬ S i → w'.heap[i]? = w.heap[i]?
namespace Gs
variable {S:Nat → Prop} {w w1 w2:World} {g:Nat}
theorem refl (S:Nat → Prop) (w:World):Gs S w w:=⟨rfl,rfl,rfl,Nat.le_refl _,fun _ _ _ => rfl⟩
theorem trans (h:Gs S w w1) (k:Gs S w1 w2):Gs S w w2 :=
 ⟨k.os.trans h.os,k.tape.trans h.tape,k.output.trans h.output,Nat.le_trans h.size k.size,fun i hi hg => (k.block i (Nat.lt_of_lt_of_le hi h.size) hg).trans (h.block i hi hg)⟩
theorem of_below (h:Below w.heap.size w w1):Gs S w w1:=⟨h.os,h.tape,h.output,h.size,fun i hi _ => h.block i hi⟩
theorem of_gr (h:Gr g w w1) (hS:S g):Gs S w w1:=⟨h.os,h.tape,h.output,h.size,fun i hi hn => h.block i hi (fun e => hn (e ▸ hS))⟩
theorem to_gr (h:Gs (· = g) w w1):Gr g w w1:=⟨h.os,h.tape,h.output,h.size,h.block⟩
theorem step (h:Gs S w w1) (hb:Below w1.heap.size w1 w2):Gs S w w2:=h.trans (of_below hb)
theorem stepB {B:Nat} (h:Gs S w w1) (hb:Below B w1 w2) (hB:w.heap.size ≤ B):Gs S w w2 :=
 ⟨hb.os.trans h.os,hb.tape.trans h.tape,hb.output.trans h.output,Nat.le_trans h.size hb.size,fun i hi hn => (hb.block i (Nat.lt_of_lt_of_le hi hB)).trans (h.block i hi hn)⟩
theorem blk {o:Obj} {b:Nat} (h:Gs S w w1) (hb:w.heap[b]? = some o) (hg:¬ S b):w1.heap[b]? = some o:=(h.block b (blk_lt hb) hg).trans hb
theorem alloc (h:Gs S w w1) (o:Obj):Gs S w (w1.alloc o):=h.step (below_alloc (Below.refl _ _) o)
theorem setB (h:Gs S w w1) {b:Nat} (hb:w.heap.size ≤ b) (j:Nat) (v:Value):Gs S w (w1.setCell ⟨b,j,none⟩ v) :=
 h.stepB (((Below.refl w1.heap.size w1).mono (Nat.le_refl _) |>.mono (Nat.zero_le _) |> fun (hh:Below 0 w1 w1) => (⟨hh.os,hh.tape,hh.output,hh.size,fun i _ => rfl⟩:Below b w1 w1)).setCell (p:=⟨b,j,none⟩) (Nat.le_refl _) v) hb
theorem setS (h:Gs S w w1) {b:Nat} (hb:S b) (j:Nat) (v:Value):Gs S w (w1.setCell ⟨b,j,none⟩ v):=by
 have hc:Below 0 w1 (w1.setCell ⟨b,j,none⟩ v):=((Below.refl w1.heap.size w1).mono (Nat.zero_le _)).setCell (Nat.zero_le _) v
 refine ⟨hc.os.trans h.os,hc.tape.trans h.tape,hc.output.trans h.output,Nat.le_trans h.size hc.size,fun i hi hg => ?_⟩
 rw [Below.heap_setCell w1 ⟨b,j,none⟩ v i (fun e => hg (by rw [show i=b from e];exact hb))]
 exact h.block i hi hg
theorem F {α:Type} {d:Kd α} {ok:Nat → Prop} {A:Option Addr} {n:Nat} {xs:List α} (h:Gs S w w1) (hf:Kd.F d w ok A n xs) (hok:∀ k,ok k → ¬ S k):Kd.F d w1 ok A n xs:=Kd.F_step hf (fun k hk hlt => h.block k hlt (hok k hk))
theorem N {α:Type} {d:Kd α} {e base:Nat} {ok:Nat → Prop} {v:Value} {xs:List α} (h:Gs S w w1) (hf:Kd.N d e w base ok v xs) (hok:∀ k,ok k → ¬ S k):Kd.N d e w1 base ok v xs:=Kd.N_step hf (fun k hk hlt => h.block k hlt (hok k hk))
end Gs
theorem PS.belowB {w0 w w':World} {g B:Nat} {ts:List S32} (h:PS w0 g ts w) (hb:Below B w w') (hB:w0.heap.size ≤ B) (hg:g < B):PS w0 g ts w':=by
 obtain ⟨h1,h2,h3,⟨A,c,h4,h5,h6⟩,h7⟩:=h
 exact ⟨h1,Nat.lt_of_lt_of_le h2 hb.size,⟨hb.os.trans h3.os,hb.tape.trans h3.tape,hb.output.trans h3.output,Nat.le_trans h3.size hb.size,fun i hi => (hb.block i (Nat.lt_of_lt_of_le hi hB)).trans (h3.block i hi)⟩,⟨A,c,h4,h5,(hb.block g hg).trans h6⟩,h7⟩
def OutG {α σ:Type} (S:Nat → Prop) (I:σ → List S32 → World → Prop) (V:World → α → Value → Prop) (w:World) (m:Option ((α × σ) × List S32)) (e:Ending) (w':World):Prop :=
 Gs S w w'∧match m with
  | none => e = .panicked failedV
  | some ((x,st),r) => ∃ v,e = .returned v∧V w' x v∧I st r w'
theorem OutG.none {α σ:Type} {S:Nat → Prop} {I:σ → List S32 → World → Prop} {V:World → α → Value → Prop} {w w':World} {m:Option ((α × σ) × List S32)} {e:Ending} (h:OutG S I V w m e w') (hm:m=none):Gs S w w'∧e = .panicked failedV:=by subst hm;exact h
theorem OutG.some {α σ:Type} {S:Nat → Prop} {I:σ → List S32 → World → Prop} {V:World → α → Value → Prop} {w w':World} {m:Option ((α × σ) × List S32)} {e:Ending} {x:α} {st:σ} {r:List S32} (h:OutG S I V w m e w') (hm:m=some ((x,st),r)):Gs S w w'∧∃ v,e = .returned v∧V w' x v∧I st r w':=by subst hm;exact h
theorem OutG.of_none {α σ:Type} {S:Nat → Prop} {I:σ → List S32 → World → Prop} {V:World → α → Value → Prop} {w w':World} {m:Option ((α × σ) × List S32)} (hm:m=Option.none) (h:Gs S w w'):OutG S I V w m (.panicked failedV) w':=by subst hm;exact ⟨h,rfl⟩
theorem OutG.of_some {α σ:Type} {S:Nat → Prop} {I:σ → List S32 → World → Prop} {V:World → α → Value → Prop} {w w':World} {m:Option ((α × σ) × List S32)} {x:α} {st:σ} {r:List S32} {v:Value} (hm:m=Option.some ((x,st),r)) (h:Gs S w w') (hv:V w' x v) (hp:I st r w'):OutG S I V w m (.returned v) w':=by subst hm;exact ⟨h,v,rfl,hv,hp⟩
def Vrow {α:Type} (d:Kd α) (B:Nat):World → List α → Value → Prop:=fun w xs v => ∃ A c,v = .slice A xs.length c∧xs.length ≤ c∧Kd.F d w (fun k => B ≤ k) A xs.length xs
structure Along {σ:Type} (S:Nat → Prop) (I:σ → List S32 → World → Prop) (w0:World) (g B:Nat):Prop where
 low:∀ k,S k → k < B
 at_:S g
 base:w0.heap.size ≤ B
 ps:∀ st ts w,I st ts w → PS w0 g ts w
 go:∀ st ts r w w',I st ts w → Gr g w w' → PS w0 g r w' → I st r w'
 keep:∀ st ts w w',I st ts w → Below B w w' → I st ts w'
theorem along_ps {w0:World} {g B:Nat} (hg:g < B) (hB:w0.heap.size ≤ B):Along (σ:=Unit) (· = g) (fun _ ts w => PS w0 g ts w) w0 g B :=
 ⟨fun k hk => by subst hk;exact hg,rfl,hB,fun _ _ _ h => h,fun _ _ _ _ _ _ _ h => h,fun _ _ _ _ h hb => h.belowB hb hB hg⟩
theorem Reps1 {α:Type} {R:α → List Value → Prop} {size:Nat} {x:α} {c:List Value} (h:R x c) (hl:c.length=size):Reps R size [x] c:=by
 have:=(Reps.none R size).snoc h hl
 simpa using this
theorem lst_none {α σ:Type} {one:σ → List S32 → Option ((α × σ) × List S32)} {k:Nat} {acc:List α} {st:σ} {ts:List S32} (h:Ps.tk Ps.sComma ts=none):Ps.lst one (k + 1) acc st ts=none:=by simp only [Ps.lst,h]
theorem lst_false {α σ:Type} {one:σ → List S32 → Option ((α × σ) × List S32)} {k:Nat} {acc:List α} {st:σ} {ts r:List S32} (h:Ps.tk Ps.sComma ts=some (false,r)):Ps.lst one (k + 1) acc st ts=some ((acc,st),r):=by simp only [Ps.lst,h]
theorem lst_true_none {α σ:Type} {one:σ → List S32 → Option ((α × σ) × List S32)} {k:Nat} {acc:List α} {st:σ} {ts r:List S32} (h:Ps.tk Ps.sComma ts=some (true,r)) (h1:one st r=none):Ps.lst one (k + 1) acc st ts=none:=by simp only [Ps.lst,h,h1]
theorem lst_true_some {α σ:Type} {one:σ → List S32 → Option ((α × σ) × List S32)} {k:Nat} {acc:List α} {st st1:σ} {ts r r1:List S32} {x:α} (h:Ps.tk Ps.sComma ts=some (true,r)) (h1:one st r=some ((x,st1),r1)):Ps.lst one (k + 1) acc st ts=Ps.lst one k (acc ++ [x]) st1 r1:=by simp only [Ps.lst,h,h1]
theorem lst_len {α σ:Type} {one:σ → List S32 → Option ((α × σ) × List S32)} (hlen:∀ st ts x st' r,one st ts=some ((x,st'),r) → r.length ≤ ts.length):∀ {k:Nat} {acc:List α} {st:σ} {ts:List S32} {l:List α} {st':σ} {r:List S32},Ps.lst one k acc st ts=some ((l,st'),r) → r.length ≤ ts.length
 | 0,_,_,_,_,_,_,h => by simp [Ps.lst] at h
 | k + 1,acc,st,ts,l,st',r,h => by
  cases ht:Ps.tk Ps.sComma ts with
  | none => rw [lst_none ht] at h;cases h
  | some p =>
   obtain ⟨b,r1⟩:=p
   have h1:=Ps.tk_len ht
   cases b with
   | false => rw [lst_false ht] at h;cases h;exact h1.1
   | true =>
    cases hx:one st r1 with
    | none => rw [lst_true_none ht hx] at h;cases h
    | some p =>
     obtain ⟨⟨x,s2⟩,r2⟩:=p
     rw [lst_true_some ht hx] at h
     have h2:=hlen _ _ _ _ _ hx
     have h3:=lst_len hlen h
     omega
theorem list_len {α σ:Type} {one:σ → List S32 → Option ((α × σ) × List S32)} (hlen:∀ st ts x st' r,one st ts=some ((x,st'),r) → r.length ≤ ts.length) {k:Nat} {st:σ} {ts:List S32} {l:List α} {st':σ} {r:List S32} (h:Ps.list one k st ts=some ((l,st'),r)):r.length ≤ ts.length:=by
 unfold Ps.list at h
 cases hx:one st ts with
 | none => rw [hx] at h;cases h
 | some p =>
  obtain ⟨⟨x,s2⟩,r2⟩:=p
  rw [hx] at h
  have h2:=hlen _ _ _ _ _ hx
  have h3:=lst_len hlen h
  omega
end Go.Proofs.YtcgdncpioafbdaaGreatDoor.Q
namespace Go.Proofs.YtcgdncpioafbdaaGreatDoor.Q
open Go Go.RowKit Go.Proofs.YtcgdncpioafbdaaGreatDoorW.PrintWords Go.Proofs.YtcgdncpioafbdaaGreatDoorW.PrintMore
set_option maxHeartbeats 2000000 in
set_option maxRecDepth 100000 in
theorem E_list {σ:Type} {w0 w:World} {g:Nat} {S:Nat → Prop} {I:σ → List S32 → World → Prop}  (A:Along S I w0 g w.heap.size) (one:σ → List S32 → Option ((S43 × σ) × List S32)) (n k:Nat) (hn:n ≤ 4001)
  (hone:∀ st ts (w':World),I st ts w' → ts.length ≤ n → Calls Tryz.prog 326 #[.pointer (some ⟨g,0,none⟩)] w' (OutG S I (Vex w'.heap.size) w' (one st ts)))
  (hlen:∀ st ts x st' r,one st ts=some ((x,st'),r) → r.length ≤ ts.length) (st:σ) (ts:List S32) (h:I st ts w) (hts:ts.length ≤ n) (hk:ts.length < k) :
  Calls Tryz.prog 325 #[.pointer (some ⟨g,0,none⟩),.func (.func 326) #[.pointer (some ⟨g,0,none⟩)] #[]] w (OutG S I (Vrow k43 w.heap.size) w (Ps.list one k st ts)):=by
 have HI:=Aside0.mk h
 have HONE:=Aside0.mk hone
 have HNN:=Aside0.mk hn
 clear h hone hn
 cases hx:one st ts with
 | none =>
  have HX:=Aside0.mk hx
  have HM:=Aside0.mk (show Ps.list one k st ts=none by simp only [Ps.list,hx])
  clear hx
  go_enter Tryz.func325,Tryz.ntmps325
  go_wp2_with (first | (go_at_call 326;refine (HONE.out _ _ _ HI.out (by omega)).mono ?_;intro e9 w2 ho;obtain ⟨hg,rfl⟩:=ho.none HX.out;have HG9:=Aside0.mk ((Gs.refl S w).trans hg);clear hg ho))
  exact ⟨rfl,OutG.of_none HM.out HG9.out⟩
 | some p =>
  obtain ⟨⟨x,st1⟩,r0⟩:=p
  have HX:=Aside0.mk hx
  have HM:=Aside0.mk (show Ps.list one k st ts=Ps.lst one k [x] st1 r0 by simp only [Ps.list,hx])
  have hl0:=hlen _ _ _ _ _ hx
  clear hx
  go_enter Tryz.func325,Tryz.ntmps325
  go_wp2_with (first | (go_at_call 326;refine (HONE.out _ _ _ HI.out (by omega)).mono ?_;intro e9 w2 ho;obtain ⟨hg,v,rfl,hv,hi⟩:=ho.some HX.out;have hs2:=hg.size;obtain ⟨Ax,nx,rfl,hnx,hf0⟩:=hv;have hfx:=FK43 hnx hf0;clear hnx hf0;unfold cells43;have HI2:=Aside0.mk hi;have HG2:=Aside0.mk ((Gs.refl S w).trans hg);have HX2:=Aside0.mk hfx;clear hg ho hi hfx) | ((with_reducible refine gate_dst (N:=8) rfl ?_);refine Kd.N_lit k43 (w0:=w2) w2.heap.size 43 ?hg (N':=8) ?hd (xs:=[x]) (inner:=(cells43 x Ax nx)) (ok:=fun q => w.heap.size ≤ q) (okp:=fun q => w.heap.size ≤ q) ?hr ?hp (fun _ hk => hk) (by omega) (Below.refl _ _) (Nat.le_refl _) (by simp) ?_;(case hd => rfl);(case hg => rfl);(case hr => first | (go_simp;done) | (go_simp;rfl));(case hp => exact Reps1 HX2.out (k43.K_len (Kd.FK_now HX2.out)));intro v5 w4 ho hb hg hat;have hs4:=hb.size;have HO4:=Aside0.mk (Kd.N_lower ho (show w.heap.size ≤ w2.heap.size by omega));have HI4:=Aside0.mk (A.keep _ _ _ _ HI2.out (hb.mono (by omega)));have HG4:=Aside0.mk (HG2.out.step hb);clear ho hb hg hat))
  go_loopg [5] k (fun kq v5 w' => ∃ (acc:List S43) (sq:σ) (tq:List S32),Aside0 (Ps.lst one kq acc sq tq=Ps.list one k st ts)∧Aside0 (tq.length < kq)∧Aside0 (acc.length + tq.length ≤ n + 1)∧Aside0 (Kd.N k43 43 w' w.heap.size (fun q => w.heap.size ≤ q) v5 acc)∧Aside0 (I sq tq w')∧Aside0 (Gs S w w'))
  case atStart => exact ⟨[x],st1,r0,⟨HM.out.symm⟩,⟨by omega⟩,⟨by simp;omega⟩,HO4,HI4,HG4⟩
  case round =>
   clear HM HX HO4 HI4 HG4 HI HX2 HI2 HG2
   obtain ⟨acc,sq,tq,HM,HL,HB,HO,HI,HG⟩:=hrel
   have hsr:=HG.out.size
   cases gk with
   | zero => exact absurd HL.out (by omega)
   | succ j =>
    cases ht:Ps.tk Ps.sComma tq with
    | none =>
     have HT:=Aside0.mk ht
     clear ht
     go_wp2_with (first | (go_at_call 271;refine (take_out (A.ps _ _ _ HI.out) Ps.sComma).mono ?_;intro e w3 ho;obtain ⟨hg,rfl⟩:=ho.none HT.out;have HG3:=Aside0.mk (HG.out.trans (Gs.of_gr hg A.at_));clear hg ho))
     exact ⟨rfl,OutG.of_none (by rw [← HM.out,lst_none HT.out]) HG3.out⟩
    | some p =>
     obtain ⟨b,r1⟩:=p
     have HT:=Aside0.mk ht
     have htl:=Ps.tk_len ht
     clear ht
     cases b with
     | false =>
      go_wp2_with (first | (go_at_call 271;refine (take_out (A.ps _ _ _ HI.out) Ps.sComma).mono ?_;intro e w3 ho;obtain ⟨hg,v,rfl,rfl,hp⟩:=ho.some HT.out;have hs3:=hg.size;have HI3:=Aside0.mk (A.go _ _ _ _ _ HI.out hg hp);have HG3:=Aside0.mk (HG.out.trans (Gs.of_gr hg A.at_));have HO3:=Aside0.mk (Gs.N (Gs.of_gr hg A.at_) HO.out (fun q hq hs => by have:=A.low q hs;omega));clear hg ho hp))
      go_ret
      obtain ⟨A5,c5,rfl⟩:=Kd.N_slice HO3.out
      have hr5:=(Kd.N_reads' HO3.out)
      exact OutG.of_some (by rw [← HM.out,lst_false HT.out]) HG3.out ⟨A5,c5,rfl,hr5.2.1,Kd.N_F HO3.out⟩ HI3.out
     | true =>
      have hl1:=htl.2.1 rfl
      cases hx:one sq r1 with
      | none =>
       have HX:=Aside0.mk hx
       clear hx
       go_wp2_with (first | (go_at_call 271;refine (take_out (A.ps _ _ _ HI.out) Ps.sComma).mono ?_;intro e w3 ho;obtain ⟨hg,v,rfl,rfl,hp⟩:=ho.some HT.out;have hs3:=hg.size;have HI3:=Aside0.mk (A.go _ _ _ _ _ HI.out hg hp);have HG3:=Aside0.mk (HG.out.trans (Gs.of_gr hg A.at_));have HO3:=Aside0.mk (Gs.N (Gs.of_gr hg A.at_) HO.out (fun q hq hs => by have:=A.low q hs;omega));clear hg ho hp) | (go_at_call 326;refine (HONE.out _ _ _ HI3.out (by have:=HL.out;have:=HB.out;omega)).mono ?_;intro e9 w5 ho;obtain ⟨hg,rfl⟩:=ho.none HX.out;have HG9:=Aside0.mk (HG3.out.trans hg);clear hg ho))
       exact ⟨rfl,OutG.of_none (by rw [← HM.out,lst_true_none HT.out HX.out]) HG9.out⟩
      | some p =>
       obtain ⟨⟨y,s2⟩,r2⟩:=p
       have HX:=Aside0.mk hx
       have hl2:=hlen _ _ _ _ _ hx
       clear hx
       go_wp2_with (first | (go_at_call 271;refine (take_out (A.ps _ _ _ HI.out) Ps.sComma).mono ?_;intro e w3 ho;obtain ⟨hg,v,rfl,rfl,hp⟩:=ho.some HT.out;have hs3:=hg.size;have HI3:=Aside0.mk (A.go _ _ _ _ _ HI.out hg hp);have HG3:=Aside0.mk (HG.out.trans (Gs.of_gr hg A.at_));have HO3:=Aside0.mk (Gs.N (Gs.of_gr hg A.at_) HO.out (fun q hq hs => by have:=A.low q hs;omega));clear hg ho hp) | (go_at_call 326;refine (HONE.out _ _ _ HI3.out (by have:=HL.out;have:=HB.out;omega)).mono ?_;intro e9 w5 ho;obtain ⟨hg,v,rfl,hv,hi⟩:=ho.some HX.out;have hs5:=hg.size;obtain ⟨Ax,nx,rfl,hnx,hf0⟩:=hv;have hfx:=FK43 hnx hf0;clear hnx hf0;unfold cells43;have HI5:=Aside0.mk hi;have HG5:=Aside0.mk (HG3.out.trans hg);have HX5:=Aside0.mk hfx;have HO5:=Aside0.mk (Gs.N hg HO3.out (fun q hq hs => by have:=A.low q hs;omega));clear hg ho hi hfx) | ((with_reducible refine gate_builtin (b:=.append) (xs:=#[.tmp 11,.tmp 14]) rfl ?_);at_builtin;refine Kd.N_append k43 (w0:=w5) w.heap.size rfl (.tmp 11) (.tmp 14) 41 43 ((.agg #[(.string ⟨#[]⟩),(.int .i64 0),(.int .i64 0),(.string ⟨#[]⟩),(.string ⟨#[]⟩),(.slice none 0 0)])) 88 rfl Tryz.underlying41 info43 rfl (by decide) (by omega) u5 acc y (cells43 y Ax nx) (fun q => w.heap.size ≤ q) (fun q => w3.heap.size ≤ q) rfl rfl HX5.out ?aP (fun q hq => by omega) HO5.out ((Below.refl w5.heap.size w5).mono (by omega)) (by omega) ?aL ?_;(case aP => exact fun q hq => ⟨by omega,fun he => by have:=Kd.N_lt HO3.out q he.symm;omega⟩);(case aL => have:=HB.out;have:=HNN.out;omega);intro v6 w6 ho hb hg hat;have HO6:=Aside0.mk ho;have HI6:=Aside0.mk (A.keep _ _ _ _ HI5.out hb);have HG6:=Aside0.mk (HG5.out.stepB hb (Nat.le_refl _));clear ho hb hg hat))
       go_roundg j
       case measure => have:=HL.out;omega
       case rel =>
        exact ⟨acc ++ [y],s2,r2,⟨by rw [← HM.out,lst_true_some HT.out HX.out]⟩,⟨by have:=HL.out;omega⟩,⟨by have:=HB.out;simp;omega⟩,HO6,HI6,HG6⟩
end Go.Proofs.YtcgdncpioafbdaaGreatDoor.Q
namespace Go.Proofs.YtcgdncpioafbdaaGreatDoor.Q
open Go Go.RowKit Go.Proofs.YtcgdncpioafbdaaGreatDoorW.PrintWords
set_option maxHeartbeats 1000000 in
set_option maxRecDepth 100000 in
theorem any_out {w0 w:World} {g:Nat} {ts:List S32} (h:PS w0 g ts w) {k:Nat} (hk:2 * ts.length + 1 ≤ k):Calls Tryz.prog 326 #[.pointer (some ⟨g,0,none⟩)] w (Out w0 g (Vex w.heap.size) w (Ps.expr k 0 ts)):=by
 have HP:=Aside0.mk h
 clear h
 have hlt:=HP.out.lt
 have hlow:=HP.out.low
 cases hx:Ps.expr k 0 ts with
 | none =>
  have HX:=Aside0.mk hx
  clear hx
  go_enter Tryz.func326,Tryz.ntmps326
  go_wp2_with (first | (go_at_call 358;refine (expr_out (HP.out.alloc _) 0 hk).mono ?_;intro e9 w2 ho;obtain ⟨hg,rfl⟩:=ho.none HX.out;have HG2:=Aside0.mk (((Gr.refl g w).alloc _).trans hg);clear hg ho))
  exact ⟨rfl,Out.of_none rfl HG2.out⟩
 | some p =>
  obtain ⟨x,r⟩:=p
  have HX:=Aside0.mk hx
  clear hx
  go_enter Tryz.func326,Tryz.ntmps326
  go_wp2_with (first | (go_at_call 358;refine (expr_out (HP.out.alloc _) 0 hk).mono ?_;intro e9 w2 ho;obtain ⟨hg,v,rfl,hv,hp⟩:=ho.some HX.out;obtain ⟨Ax,nx,rfl,hnx,hfx⟩:=hv;have BR2:=Aside0.mk (hg.blk (new_blk (W:=w) _ rfl) (by omega));have hs2:w.heap.size < w2.heap.size:=blk_lt BR2.out;have r2c0:w2.cell? ⟨w.heap.size,0,none⟩=some (.string ⟨#[]⟩):=(blk_cell BR2.out 0).trans rfl;have r2c1:w2.cell? ⟨w.heap.size,1,none⟩=some (.int .i64 0):=(blk_cell BR2.out 1).trans rfl;have r2c2:w2.cell? ⟨w.heap.size,2,none⟩=some (.int .i64 0):=(blk_cell BR2.out 2).trans rfl;have r2c3:w2.cell? ⟨w.heap.size,3,none⟩=some (.string ⟨#[]⟩):=(blk_cell BR2.out 3).trans rfl;have r2c4:w2.cell? ⟨w.heap.size,4,none⟩=some (.string ⟨#[]⟩):=(blk_cell BR2.out 4).trans rfl;have r2c5:w2.cell? ⟨w.heap.size,5,none⟩=some (.slice none 0 0):=(blk_cell BR2.out 5).trans rfl;have r2z0:=blk_frozen BR2.out 0;have r2z1:=blk_frozen BR2.out 1;have r2z2:=blk_frozen BR2.out 2;have r2z3:=blk_frozen BR2.out 3;have r2z4:=blk_frozen BR2.out 4;have r2z5:=blk_frozen BR2.out 5;have HQ2:=Aside0.mk hp;have HG2:=Aside0.mk (((Gr.refl g w).alloc _).trans hg);have HNX:=Aside0.mk hnx;have HFX:=Aside0.mk (Kd.F_mono hfx (ok':=fun q => w.heap.size < q) (fun q hq => by simp at hq;omega));clear hg ho hp hnx hfx;unfold cells43))
  refine bodyPost_ret (v:=.agg (cells43 x Ax nx).toArray) ?_ rfl ?_
  ·simp [results,Tryz.results326,go_sem,cells43,r2c0,r2z0,r2c1,r2z1,r2c2,r2z2,r2c3,r2z3,r2c4,r2z4,r2c5,r2z5,hs2]
  ·refine Out.of_some rfl ?_ ⟨Ax,nx,rfl,HNX.out,?_⟩ ?_
   ·with_reducible (repeat (first | exact HG2.out | refine Gr.setB ?_ (Nat.le_refl _) _ _))
   ·refine Kd.F_mono (ok:=fun q => w.heap.size < q) ?_ (fun q hq => Nat.le_of_lt hq)
    with_reducible (repeat (first | exact HFX.out | refine Kd.F_far ?_ (fun q hq => Nat.ne_of_gt hq) _))
   ·with_reducible (repeat (first | exact HQ2.out | refine PS.setB ?_ (by omega) (by omega) _ _))
theorem out_g {α:Type} {w0 w w':World} {g:Nat} {V:World → α → Value → Prop} {m:Option (α × List S32)} {m':Option ((α × Unit) × List S32)} {e:Ending} (h:Out w0 g V w m e w') (hm:m'=m.map fun p => ((p.1,()),p.2)):OutG (· = g) (fun _ ts w => PS w0 g ts w) V w m' e w':=by
 subst hm
 obtain ⟨hg,hm⟩:=h
 refine ⟨Gs.of_gr hg rfl,?_⟩
 cases m with
 | none => exact hm
 | some p => exact hm
theorem g_out {α:Type} {w0 w w':World} {g:Nat} {V:World → α → Value → Prop} {m:Option (α × List S32)} {m':Option ((α × Unit) × List S32)} {e:Ending} (h:OutG (· = g) (fun _ ts w => PS w0 g ts w) V w m' e w') (hm:m=m'.map fun p => (p.1.1,p.2)):Out w0 g V w m e w':=by
 subst hm
 obtain ⟨hg,hm⟩:=h
 refine ⟨hg.to_gr,?_⟩
 cases m' with
 | none => exact hm
 | some p => obtain ⟨⟨x,u⟩,r⟩:=p;exact hm
theorem lists_out {w0 w:World} {g:Nat} {ts:List S32} (h:PS w0 g ts w) {k:Nat} (hk:2 * ts.length + 1 ≤ k) (hn:ts.length ≤ 4001):Calls Tryz.prog 325 #[.pointer (some ⟨g,0,none⟩),.func (.func 326) #[.pointer (some ⟨g,0,none⟩)] #[]] w (Out w0 g (Vrow k43 w.heap.size) w (Ps.lists k ts)):=by
 refine (E_list (along_ps (w0:=w0) h.lt (Nat.le_of_lt (Nat.lt_of_le_of_lt h.low h.lt))) (Ps.anyU k) ts.length k hn ?_ ?_ () ts h (Nat.le_refl _) (by omega)).mono ?_
 ·intro st tq w' hI hl
  refine (any_out hI (k:=k) (by omega)).mono fun e w1 ho => out_g ho ?_
  unfold Ps.anyU
  cases Ps.expr k 0 tq with
  | none => rfl
  | some p => rfl
 ·intro st tq x st' r hx
  unfold Ps.anyU at hx
  cases he:Ps.expr k 0 tq with
  | none => rw [he] at hx;cases hx
  | some p => rw [he] at hx;cases hx;exact Nat.le_of_lt (Ps.expr_len he)
 ·intro e w1 ho
  refine g_out ho ?_
  unfold Ps.lists
  cases Ps.list (Ps.anyU k) k () ts with
  | none => rfl
  | some p => rfl
set_option maxHeartbeats 1000000 in
set_option maxRecDepth 100000 in
theorem where_out {w0 w:World} {g:Nat} {ts:List S32} (h:PS w0 g ts w) {k:Nat} (hk:2 * ts.length + 1 ≤ k):Calls Tryz.prog 270 #[.pointer (some ⟨g,0,none⟩)] w (Out w0 g (Vrow k43 w.heap.size) w (Ps.whr k ts)):=by
 have HP:=Aside0.mk h
 clear h
 have hlt:=HP.out.lt
 cases ht:Ps.tk Ps.sWhere ts with
 | none =>
  have HT:=Aside0.mk ht
  have HM:=Aside0.mk (show Ps.whr k ts=none by simp only [Ps.whr,ht])
  clear ht
  go_enter Tryz.func270,Tryz.ntmps270
  go_wp2_with (first | (go_at_call 271;refine (take_out HP.out Ps.sWhere).mono ?_;intro e w2 ho;obtain ⟨hg,rfl⟩:=ho.none HT.out;have HG2:=Aside0.mk hg;clear hg ho))
  exact ⟨rfl,Out.of_none HM.out HG2.out⟩
 | some p =>
  obtain ⟨b,r⟩:=p
  have HT:=Aside0.mk ht
  cases b with
  | false =>
   have HM:=Aside0.mk (show Ps.whr k ts=some ([],r) by simp only [Ps.whr,ht])
   clear ht
   go_enter Tryz.func270,Tryz.ntmps270
   go_wp2_with (first | (go_at_call 271;refine (take_out HP.out Ps.sWhere).mono ?_;intro e w2 ho;obtain ⟨hg,v,rfl,rfl,hp⟩:=ho.some HT.out;have hs2:=hg.size;have HQ2:=Aside0.mk hp;have HG2:=Aside0.mk hg;clear hg ho hp))
   go_ret
   exact Out.of_some HM.out HG2.out ⟨none,0,rfl,Nat.le_refl _,Kd.F_nil _ _ _⟩ HQ2.out
  | true =>
   cases hx:Ps.expr k 0 r with
   | none =>
    have HM:=Aside0.mk (show Ps.whr k ts=none by simp only [Ps.whr,ht,hx])
    have HX:=Aside0.mk hx
    clear ht hx
    go_enter Tryz.func270,Tryz.ntmps270
    go_wp2_with (first | (go_at_call 271;refine (take_out HP.out Ps.sWhere).mono ?_;intro e w2 ho;obtain ⟨hg,v,rfl,rfl,hp⟩:=ho.some HT.out;have hs2:=hg.size;have HQ2:=Aside0.mk hp;have HG2:=Aside0.mk hg;clear hg ho hp) | (go_at_call 326;refine (any_out HQ2.out (k:=k) (by have:=(Ps.tk_len HT.out).1;omega)).mono ?_;intro e9 w3 ho;obtain ⟨hg,rfl⟩:=ho.none HX.out;have HG3:=Aside0.mk (HG2.out.trans hg);clear hg ho))
    exact ⟨rfl,Out.of_none HM.out HG3.out⟩
   | some p =>
    obtain ⟨x,r1⟩:=p
    have HM:=Aside0.mk (show Ps.whr k ts=some ([x],r1) by simp only [Ps.whr,ht,hx])
    have HX:=Aside0.mk hx
    clear ht hx
    go_enter Tryz.func270,Tryz.ntmps270
    go_wp2_with (first | (go_at_call 271;refine (take_out HP.out Ps.sWhere).mono ?_;intro e w2 ho;obtain ⟨hg,v,rfl,rfl,hp⟩:=ho.some HT.out;have hs2:=hg.size;have HQ2:=Aside0.mk hp;have HG2:=Aside0.mk hg;clear hg ho hp) | (go_at_call 326;refine (any_out HQ2.out (k:=k) (by have:=(Ps.tk_len HT.out).1;omega)).mono ?_;intro e9 w3 ho;obtain ⟨hg,v,rfl,hv,hp⟩:=ho.some HX.out;obtain ⟨Ax,nx,rfl,hnx,hfx⟩:=hv;have hs3:=hg.size;have HQ3:=Aside0.mk hp;have HG3:=Aside0.mk (HG2.out.trans hg);have HNX:=Aside0.mk hnx;have HFX:=Aside0.mk (Kd.F_mono hfx (ok':=fun q => w.heap.size ≤ q) (fun q hq => by omega));clear hg ho hp hnx hfx;unfold cells43))
    go_ret
    exact Out.of_some HM.out (HG3.out.alloc _) ⟨some ⟨w3.heap.size,0,none⟩,1,rfl,Nat.le_refl _,F_one (new_blk _ rfl) (by omega) HNX.out (Kd.F_alloc HFX.out _)⟩ (HQ3.out.alloc _)
set_option maxHeartbeats 1000000 in
set_option maxRecDepth 100000 in
theorem row_out {w0 w:World} {g:Nat} {ts:List S32} (h:PS w0 g ts w) {k:Nat} (hk:2 * ts.length + 1 ≤ k) (hn:ts.length ≤ 4001):Calls Tryz.prog 266 #[.pointer (some ⟨g,0,none⟩)] w (Out w0 g (Vrow k43 w.heap.size) w (Ps.row k ts)):=by
 have HP:=Aside0.mk h
 clear h
 have hlt:=HP.out.lt
 cases hu:Ps.ms [Ps.sOpen] ts with
 | none =>
  have HU:=Aside0.mk hu
  have HM:=Aside0.mk (show Ps.row k ts=none by simp only [Ps.row,hu])
  clear hu
  go_enter Tryz.func266,Tryz.ntmps266
  go_wp2_with (first | (go_at_call 259;refine (must1 HP.out (by simp) Ps.sOpen 1).mono ?_;intro e7 w2 ho;obtain ⟨hg,rfl⟩:=ho.none (msU_none HU.out);have HGN:=Aside0.mk ((Gr.refl g w).trans hg);clear hg ho))
  exact ⟨rfl,Out.of_none HM.out HGN.out⟩
 | some r =>
  have HU:=Aside0.mk hu
  cases hx:Ps.lists k r with
  | none =>
   have HX:=Aside0.mk hx
   have HM:=Aside0.mk (show Ps.row k ts=none by simp only [Ps.row,hu,hx])
   clear hu hx
   go_enter Tryz.func266,Tryz.ntmps266
   go_wp2_with (first | (go_at_call 259;refine (must1 HP.out (by simp) Ps.sOpen 1).mono ?_;intro e7 w2 ho;obtain ⟨hg,v,rfl,rfl,hp⟩:=ho.some (msU_some HU.out);have hs2:=hg.size;have HQ2:=Aside0.mk hp;have HG2:=Aside0.mk hg;clear hg ho hp) | (go_at_call 325;refine (lists_out HQ2.out (k:=k) (by have:=Ps.ms_len HU.out;omega) (by have:=Ps.ms_len HU.out;omega)).mono ?_;intro e8 w3 ho;obtain ⟨hg,rfl⟩:=ho.none HX.out;have HG3:=Aside0.mk (HG2.out.trans hg);clear hg ho))
   exact ⟨rfl,Out.of_none HM.out HG3.out⟩
  | some p =>
   obtain ⟨l,r1⟩:=p
   have HX:=Aside0.mk hx
   cases hv:Ps.ms [Ps.sClose] r1 with
   | none =>
    have HV:=Aside0.mk hv
    have HM:=Aside0.mk (show Ps.row k ts=none by simp only [Ps.row,hu,hx,hv])
    clear hu hx hv
    go_enter Tryz.func266,Tryz.ntmps266
    go_wp2_with (first | (go_at_call 259;refine (must1 HP.out (by simp) Ps.sOpen 1).mono ?_;intro e7 w2 ho;obtain ⟨hg,v,rfl,rfl,hp⟩:=ho.some (msU_some HU.out);have hs2:=hg.size;have HQ2:=Aside0.mk hp;have HG2:=Aside0.mk hg;clear hg ho hp) | (go_at_call 325;refine (lists_out HQ2.out (k:=k) (by have:=Ps.ms_len HU.out;omega) (by have:=Ps.ms_len HU.out;omega)).mono ?_;intro e8 w3 ho;obtain ⟨hg,v,rfl,hv,hp⟩:=ho.some HX.out;obtain ⟨Ax,nx,rfl,hnx,hfx⟩:=hv;have hs3:=hg.size;have HQ3:=Aside0.mk hp;have HG3:=Aside0.mk (HG2.out.trans hg);have HNX:=Aside0.mk hnx;have HFX:=Aside0.mk (Kd.F_mono hfx (ok':=fun q => w.heap.size ≤ q) (fun q hq => by omega));clear hg ho hp hnx hfx) | (go_at_call 259;refine (must1 HQ3.out (by simp) Ps.sClose 1).mono ?_;intro e7 w4 ho;obtain ⟨hg,rfl⟩:=ho.none (msU_none HV.out);have HGN:=Aside0.mk (HG3.out.trans hg);clear hg ho))
    exact ⟨rfl,Out.of_none HM.out HGN.out⟩
   | some r2 =>
    have HV:=Aside0.mk hv
    have HM:=Aside0.mk (show Ps.row k ts=some (l,r2) by simp only [Ps.row,hu,hx,hv])
    clear hu hx hv
    go_enter Tryz.func266,Tryz.ntmps266
    go_wp2_with (first | (go_at_call 259;refine (must1 HP.out (by simp) Ps.sOpen 1).mono ?_;intro e7 w2 ho;obtain ⟨hg,v,rfl,rfl,hp⟩:=ho.some (msU_some HU.out);have hs2:=hg.size;have HQ2:=Aside0.mk hp;have HG2:=Aside0.mk hg;clear hg ho hp) | (go_at_call 325;refine (lists_out HQ2.out (k:=k) (by have:=Ps.ms_len HU.out;omega) (by have:=Ps.ms_len HU.out;omega)).mono ?_;intro e8 w3 ho;obtain ⟨hg,v,rfl,hv,hp⟩:=ho.some HX.out;obtain ⟨Ax,nx,rfl,hnx,hfx⟩:=hv;have hs3:=hg.size;have HQ3:=Aside0.mk hp;have HG3:=Aside0.mk (HG2.out.trans hg);have HNX:=Aside0.mk hnx;have HFX:=Aside0.mk (Kd.F_mono hfx (ok':=fun q => w.heap.size ≤ q) (fun q hq => by omega));clear hg ho hp hnx hfx) | (go_at_call 259;refine (must1 HQ3.out (by simp) Ps.sClose 1).mono ?_;intro e7 w4 ho;obtain ⟨hg,v,rfl,rfl,hp⟩:=ho.some (msU_some HV.out);have HQ4:=Aside0.mk hp;have HG4:=Aside0.mk (HG3.out.trans hg);have HF4:=Aside0.mk (hg.F HFX.out (fun q hq => by omega));clear hg ho hp))
    go_ret
    exact Out.of_some HM.out HG4.out ⟨Ax,nx,rfl,HNX.out,HF4.out⟩ HQ4.out
theorem lists_len {k:Nat} {ts r:List S32} {l:List S43} (h:Ps.lists k ts=some (l,r)):r.length ≤ ts.length:=by
 unfold Ps.lists at h
 cases hl:Ps.list (Ps.anyU k) k () ts with
 | none => rw [hl] at h;cases h
 | some p =>
  obtain ⟨⟨l',u⟩,r'⟩:=p
  rw [hl] at h
  cases h
  exact list_len (one:=Ps.anyU k) (fun st tq x st' r hx => by
   unfold Ps.anyU at hx
   cases he:Ps.expr k 0 tq with
   | none => rw [he] at hx;cases hx
   | some p => rw [he] at hx;cases hx;exact Nat.le_of_lt (Ps.expr_len he)) hl
theorem row_len {k:Nat} {ts r:List S32} {l:List S43} (h:Ps.row k ts=some (l,r)):r.length ≤ ts.length:=by
 unfold Ps.row at h
 cases hu:Ps.ms [Ps.sOpen] ts with
 | none => rw [hu] at h;cases h
 | some r1 =>
  rw [hu] at h
  simp only at h
  cases hx:Ps.lists k r1 with
  | none => rw [hx] at h;cases h
  | some p =>
   obtain ⟨l1,r2⟩:=p
   rw [hx] at h
   simp only at h
   cases hv:Ps.ms [Ps.sClose] r2 with
   | none => rw [hv] at h;cases h
   | some r3 =>
    rw [hv] at h
    cases h
    have h1:=Ps.ms_len hu
    have h2:=lists_len hx
    have h3:=Ps.ms_len hv
    omega
end Go.Proofs.YtcgdncpioafbdaaGreatDoor.Q
namespace Go.Proofs.YtcgdncpioafbdaaGreatDoor.Q
open Go Go.RowKit Go.Proofs.YtcgdncpioafbdaaGreatDoorW.PrintWords Go.Proofs.YtcgdncpioafbdaaGreatDoorW.PrintMore
theorem info41:(Tryz.prog.info? 41).map (fun i => (i.zero,i.size,i.bytes))=some (some (.slice none 0 0),1,24):=by kernel_rfl
set_option maxHeartbeats 2000000 in
set_option maxRecDepth 100000 in
theorem R_list {σ:Type} {w0 w:World} {g:Nat} {S:Nat → Prop} {I:σ → List S32 → World → Prop}  (A:Along S I w0 g w.heap.size) (one:σ → List S32 → Option (((List S43) × σ) × List S32)) (n k:Nat) (hn:n ≤ 4001)
  (hone:∀ st ts (w':World),I st ts w' → ts.length ≤ n → Calls Tryz.prog 266 #[.pointer (some ⟨g,0,none⟩)] w' (OutG S I ((Vrow k43) w'.heap.size) w' (one st ts)))
  (hlen:∀ st ts x st' r,one st ts=some ((x,st'),r) → r.length ≤ ts.length) (st:σ) (ts:List S32) (h:I st ts w) (hts:ts.length ≤ n) (hk:ts.length < k) :
  Calls Tryz.prog 265 #[.pointer (some ⟨g,0,none⟩),.func (.func 266) #[.pointer (some ⟨g,0,none⟩)] #[]] w (OutG S I (Vrow (Kd.slice 43 k43) w.heap.size) w (Ps.list one k st ts)):=by
 have HI:=Aside0.mk h
 have HONE:=Aside0.mk hone
 have HNN:=Aside0.mk hn
 clear h hone hn
 cases hx:one st ts with
 | none =>
  have HX:=Aside0.mk hx
  have HM:=Aside0.mk (show Ps.list one k st ts=none by simp only [Ps.list,hx])
  clear hx
  go_enter Tryz.func265,Tryz.ntmps265
  go_wp2_with (first | (go_at_call 266;refine (HONE.out _ _ _ HI.out (by omega)).mono ?_;intro e9 w2 ho;obtain ⟨hg,rfl⟩:=ho.none HX.out;have HG9:=Aside0.mk ((Gs.refl S w).trans hg);clear hg ho))
  exact ⟨rfl,OutG.of_none HM.out HG9.out⟩
 | some p =>
  obtain ⟨⟨x,st1⟩,r0⟩:=p
  have HX:=Aside0.mk hx
  have HM:=Aside0.mk (show Ps.list one k st ts=Ps.lst one k [x] st1 r0 by simp only [Ps.list,hx])
  have hl0:=hlen _ _ _ _ _ hx
  clear hx
  go_enter Tryz.func265,Tryz.ntmps265
  go_wp2_with (first | (go_at_call 266;refine (HONE.out _ _ _ HI.out (by omega)).mono ?_;intro e9 w2 ho;obtain ⟨hg,v,rfl,hv,hi⟩:=ho.some HX.out;have hs2:=hg.size;obtain ⟨Ax,nx,rfl,hnx,hf0⟩:=hv;have hfx:=Kd.FK_slice_mk (e:=43) hnx hf0;clear hnx hf0;have HI2:=Aside0.mk hi;have HG2:=Aside0.mk ((Gs.refl S w).trans hg);have HX2:=Aside0.mk hfx;clear hg ho hi hfx) | ((with_reducible refine gate_dst (N:=8) rfl ?_);refine Kd.N_lit (Kd.slice 43 k43) (w0:=w2) w2.heap.size 41 ?hg (N':=8) ?hd (xs:=[x]) (inner:=[.slice Ax x.length nx]) (ok:=fun q => w.heap.size ≤ q) (okp:=fun q => w.heap.size ≤ q) ?hr ?hp (fun _ hk => hk) (by omega) (Below.refl _ _) (Nat.le_refl _) (by simp) ?_;(case hd => rfl);(case hg => rfl);(case hr => first | (go_simp;done) | (go_simp;rfl));(case hp => exact Reps1 HX2.out ((Kd.slice 43 k43).K_len (Kd.FK_now HX2.out)));intro v5 w4 ho hb hg hat;have hs4:=hb.size;have HO4:=Aside0.mk (Kd.N_lower ho (show w.heap.size ≤ w2.heap.size by omega));have HI4:=Aside0.mk (A.keep _ _ _ _ HI2.out (hb.mono (by omega)));have HG4:=Aside0.mk (HG2.out.step hb);clear ho hb hg hat))
  go_loopg [5] k (fun kq v5 w' => ∃ (acc:List (List S43)) (sq:σ) (tq:List S32),Aside0 (Ps.lst one kq acc sq tq=Ps.list one k st ts)∧Aside0 (tq.length < kq)∧Aside0 (acc.length + tq.length ≤ n + 1)∧Aside0 (Kd.N (Kd.slice 43 k43) 41 w' w.heap.size (fun q => w.heap.size ≤ q) v5 acc)∧Aside0 (I sq tq w')∧Aside0 (Gs S w w'))
  case atStart => exact ⟨[x],st1,r0,⟨HM.out.symm⟩,⟨by omega⟩,⟨by simp;omega⟩,HO4,HI4,HG4⟩
  case round =>
   clear HM HX HO4 HI4 HG4 HI HX2 HI2 HG2
   obtain ⟨acc,sq,tq,HM,HL,HB,HO,HI,HG⟩:=hrel
   have hsr:=HG.out.size
   cases gk with
   | zero => exact absurd HL.out (by omega)
   | succ j =>
    cases ht:Ps.tk Ps.sComma tq with
    | none =>
     have HT:=Aside0.mk ht
     clear ht
     go_wp2_with (first | (go_at_call 271;refine (take_out (A.ps _ _ _ HI.out) Ps.sComma).mono ?_;intro e w3 ho;obtain ⟨hg,rfl⟩:=ho.none HT.out;have HG3:=Aside0.mk (HG.out.trans (Gs.of_gr hg A.at_));clear hg ho))
     exact ⟨rfl,OutG.of_none (by rw [← HM.out,lst_none HT.out]) HG3.out⟩
    | some p =>
     obtain ⟨b,r1⟩:=p
     have HT:=Aside0.mk ht
     have htl:=Ps.tk_len ht
     clear ht
     cases b with
     | false =>
      go_wp2_with (first | (go_at_call 271;refine (take_out (A.ps _ _ _ HI.out) Ps.sComma).mono ?_;intro e w3 ho;obtain ⟨hg,v,rfl,rfl,hp⟩:=ho.some HT.out;have hs3:=hg.size;have HI3:=Aside0.mk (A.go _ _ _ _ _ HI.out hg hp);have HG3:=Aside0.mk (HG.out.trans (Gs.of_gr hg A.at_));have HO3:=Aside0.mk (Gs.N (Gs.of_gr hg A.at_) HO.out (fun q hq hs => by have:=A.low q hs;omega));clear hg ho hp))
      go_ret
      obtain ⟨A5,c5,rfl⟩:=Kd.N_slice HO3.out
      have hr5:=(Kd.N_reads' HO3.out)
      exact OutG.of_some (by rw [← HM.out,lst_false HT.out]) HG3.out ⟨A5,c5,rfl,hr5.2.1,Kd.N_F HO3.out⟩ HI3.out
     | true =>
      have hl1:=htl.2.1 rfl
      cases hx:one sq r1 with
      | none =>
       have HX:=Aside0.mk hx
       clear hx
       go_wp2_with (first | (go_at_call 271;refine (take_out (A.ps _ _ _ HI.out) Ps.sComma).mono ?_;intro e w3 ho;obtain ⟨hg,v,rfl,rfl,hp⟩:=ho.some HT.out;have hs3:=hg.size;have HI3:=Aside0.mk (A.go _ _ _ _ _ HI.out hg hp);have HG3:=Aside0.mk (HG.out.trans (Gs.of_gr hg A.at_));have HO3:=Aside0.mk (Gs.N (Gs.of_gr hg A.at_) HO.out (fun q hq hs => by have:=A.low q hs;omega));clear hg ho hp) | (go_at_call 266;refine (HONE.out _ _ _ HI3.out (by have:=HL.out;have:=HB.out;omega)).mono ?_;intro e9 w5 ho;obtain ⟨hg,rfl⟩:=ho.none HX.out;have HG9:=Aside0.mk (HG3.out.trans hg);clear hg ho))
       exact ⟨rfl,OutG.of_none (by rw [← HM.out,lst_true_none HT.out HX.out]) HG9.out⟩
      | some p =>
       obtain ⟨⟨y,s2⟩,r2⟩:=p
       have HX:=Aside0.mk hx
       have hl2:=hlen _ _ _ _ _ hx
       clear hx
       go_wp2_with (first | (go_at_call 271;refine (take_out (A.ps _ _ _ HI.out) Ps.sComma).mono ?_;intro e w3 ho;obtain ⟨hg,v,rfl,rfl,hp⟩:=ho.some HT.out;have hs3:=hg.size;have HI3:=Aside0.mk (A.go _ _ _ _ _ HI.out hg hp);have HG3:=Aside0.mk (HG.out.trans (Gs.of_gr hg A.at_));have HO3:=Aside0.mk (Gs.N (Gs.of_gr hg A.at_) HO.out (fun q hq hs => by have:=A.low q hs;omega));clear hg ho hp) | (go_at_call 266;refine (HONE.out _ _ _ HI3.out (by have:=HL.out;have:=HB.out;omega)).mono ?_;intro e9 w5 ho;obtain ⟨hg,v,rfl,hv,hi⟩:=ho.some HX.out;have hs5:=hg.size;obtain ⟨Ax,nx,rfl,hnx,hf0⟩:=hv;have hfx:=Kd.FK_slice_mk (e:=43) hnx hf0;clear hnx hf0;have HI5:=Aside0.mk hi;have HG5:=Aside0.mk (HG3.out.trans hg);have HX5:=Aside0.mk hfx;have HO5:=Aside0.mk (Gs.N hg HO3.out (fun q hq hs => by have:=A.low q hs;omega));clear hg ho hi hfx) | ((with_reducible refine gate_builtin (b:=.append) (xs:=#[.tmp 11,.tmp 14]) rfl ?_);at_builtin;refine Kd.N_append (Kd.slice 43 k43) (w0:=w5) w.heap.size rfl (.tmp 11) (.tmp 14) 57 41 ((.slice none 0 0)) 24 rfl Tryz.underlying57 info41 rfl (by decide) (by omega) u5 acc y [.slice Ax y.length nx] (fun q => w.heap.size ≤ q) (fun q => w3.heap.size ≤ q) rfl rfl HX5.out ?aP (fun q hq => by omega) HO5.out ((Below.refl w5.heap.size w5).mono (by omega)) (by omega) ?aL ?_;(case aP => exact fun q hq => ⟨by omega,fun he => by have:=Kd.N_lt HO3.out q he.symm;omega⟩);(case aL => have:=HB.out;have:=HNN.out;omega);intro v6 w6 ho hb hg hat;have HO6:=Aside0.mk ho;have HI6:=Aside0.mk (A.keep _ _ _ _ HI5.out hb);have HG6:=Aside0.mk (HG5.out.stepB hb (Nat.le_refl _));clear ho hb hg hat))
       go_roundg j
       case measure => have:=HL.out;omega
       case rel =>
        exact ⟨acc ++ [y],s2,r2,⟨by rw [← HM.out,lst_true_some HT.out HX.out]⟩,⟨by have:=HL.out;omega⟩,⟨by have:=HB.out;simp;omega⟩,HO6,HI6,HG6⟩
end Go.Proofs.YtcgdncpioafbdaaGreatDoor.Q
namespace Go.Proofs.YtcgdncpioafbdaaGreatDoor.Q
open Go Go.RowKit Go.Proofs.YtcgdncpioafbdaaGreatDoorW.PrintWords Go.Proofs.YtcgdncpioafbdaaGreatDoorW.PrintMore
theorem info90:(Tryz.prog.info? 90).map (fun i => (i.zero,i.size,i.bytes))=some (some (.agg #[(.string ⟨#[]⟩),(.string ⟨#[]⟩),(.int .i64 0),(.int .i64 0),(.string ⟨#[]⟩),(.string ⟨#[]⟩),(.slice none 0 0)]),7,104):=by kernel_rfl
def cells90 (x:S90) (A:Option Addr) (c:Nat):List Value:=[.string x.f0,.string x.f1.f0,.int .i64 x.f1.f1.f0,.int .i64 x.f1.f1.f1,.string x.f1.f1.f2,.string x.f1.f2,.slice A x.f1.f3.length c]
def Vset (B:Nat):World → S90 → Value → Prop:=fun w x v => ∃ A c,v = .agg (cells90 x A c).toArray∧x.f1.f3.length ≤ c∧Kd.F k43 w (fun k => B ≤ k) A x.f1.f3.length x.f1.f3
theorem FK90 {w:World} {ok:Nat → Prop} {x:S90} {A:Option Addr} {c:Nat} (h:x.f1.f3.length ≤ c) (hF:Kd.F k43 w ok A x.f1.f3.length x.f1.f3):Kd.FK k90 w ok x (cells90 x A c):=k90_mkF w ok x h hF
set_option maxHeartbeats 2000000 in
set_option maxRecDepth 100000 in
theorem S_list {σ:Type} {w0 w:World} {g:Nat} {S:Nat → Prop} {I:σ → List S32 → World → Prop}  (A:Along S I w0 g w.heap.size) (one:σ → List S32 → Option ((S90 × σ) × List S32)) (n k:Nat) (hn:n ≤ 4001)
  (hone:∀ st ts (w':World),I st ts w' → ts.length ≤ n → Calls Tryz.prog 269 #[.pointer (some ⟨g,0,none⟩)] w' (OutG S I (Vset w'.heap.size) w' (one st ts)))
  (hlen:∀ st ts x st' r,one st ts=some ((x,st'),r) → r.length ≤ ts.length) (st:σ) (ts:List S32) (h:I st ts w) (hts:ts.length ≤ n) (hk:ts.length < k) :
  Calls Tryz.prog 268 #[.pointer (some ⟨g,0,none⟩),.func (.func 269) #[.pointer (some ⟨g,0,none⟩)] #[]] w (OutG S I (Vrow k90 w.heap.size) w (Ps.list one k st ts)):=by
 have HI:=Aside0.mk h
 have HONE:=Aside0.mk hone
 have HNN:=Aside0.mk hn
 clear h hone hn
 cases hx:one st ts with
 | none =>
  have HX:=Aside0.mk hx
  have HM:=Aside0.mk (show Ps.list one k st ts=none by simp only [Ps.list,hx])
  clear hx
  go_enter Tryz.func268,Tryz.ntmps268
  go_wp2_with (first | (go_at_call 269;refine (HONE.out _ _ _ HI.out (by omega)).mono ?_;intro e9 w2 ho;obtain ⟨hg,rfl⟩:=ho.none HX.out;have HG9:=Aside0.mk ((Gs.refl S w).trans hg);clear hg ho))
  exact ⟨rfl,OutG.of_none HM.out HG9.out⟩
 | some p =>
  obtain ⟨⟨x,st1⟩,r0⟩:=p
  have HX:=Aside0.mk hx
  have HM:=Aside0.mk (show Ps.list one k st ts=Ps.lst one k [x] st1 r0 by simp only [Ps.list,hx])
  have hl0:=hlen _ _ _ _ _ hx
  clear hx
  go_enter Tryz.func268,Tryz.ntmps268
  go_wp2_with (first | (go_at_call 269;refine (HONE.out _ _ _ HI.out (by omega)).mono ?_;intro e9 w2 ho;obtain ⟨hg,v,rfl,hv,hi⟩:=ho.some HX.out;have hs2:=hg.size;obtain ⟨Ax,nx,rfl,hnx,hf0⟩:=hv;have hfx:=FK90 hnx hf0;clear hnx hf0;unfold cells90;have HI2:=Aside0.mk hi;have HG2:=Aside0.mk ((Gs.refl S w).trans hg);have HX2:=Aside0.mk hfx;clear hg ho hi hfx) | ((with_reducible refine gate_dst (N:=8) rfl ?_);refine Kd.N_lit k90 (w0:=w2) w2.heap.size 90 ?hg (N':=8) ?hd (xs:=[x]) (inner:=(cells90 x Ax nx)) (ok:=fun q => w.heap.size ≤ q) (okp:=fun q => w.heap.size ≤ q) ?hr ?hp (fun _ hk => hk) (by omega) (Below.refl _ _) (Nat.le_refl _) (by simp) ?_;(case hd => rfl);(case hg => rfl);(case hr => first | (go_simp;done) | (go_simp;rfl));(case hp => exact Reps1 HX2.out (k90.K_len (Kd.FK_now HX2.out)));intro v5 w4 ho hb hg hat;have hs4:=hb.size;have HO4:=Aside0.mk (Kd.N_lower ho (show w.heap.size ≤ w2.heap.size by omega));have HI4:=Aside0.mk (A.keep _ _ _ _ HI2.out (hb.mono (by omega)));have HG4:=Aside0.mk (HG2.out.step hb);clear ho hb hg hat))
  go_loopg [5] k (fun kq v5 w' => ∃ (acc:List S90) (sq:σ) (tq:List S32),Aside0 (Ps.lst one kq acc sq tq=Ps.list one k st ts)∧Aside0 (tq.length < kq)∧Aside0 (acc.length + tq.length ≤ n + 1)∧Aside0 (Kd.N k90 90 w' w.heap.size (fun q => w.heap.size ≤ q) v5 acc)∧Aside0 (I sq tq w')∧Aside0 (Gs S w w'))
  case atStart => exact ⟨[x],st1,r0,⟨HM.out.symm⟩,⟨by omega⟩,⟨by simp;omega⟩,HO4,HI4,HG4⟩
  case round =>
   clear HM HX HO4 HI4 HG4 HI HX2 HI2 HG2
   obtain ⟨acc,sq,tq,HM,HL,HB,HO,HI,HG⟩:=hrel
   have hsr:=HG.out.size
   cases gk with
   | zero => exact absurd HL.out (by omega)
   | succ j =>
    cases ht:Ps.tk Ps.sComma tq with
    | none =>
     have HT:=Aside0.mk ht
     clear ht
     go_wp2_with (first | (go_at_call 271;refine (take_out (A.ps _ _ _ HI.out) Ps.sComma).mono ?_;intro e w3 ho;obtain ⟨hg,rfl⟩:=ho.none HT.out;have HG3:=Aside0.mk (HG.out.trans (Gs.of_gr hg A.at_));clear hg ho))
     exact ⟨rfl,OutG.of_none (by rw [← HM.out,lst_none HT.out]) HG3.out⟩
    | some p =>
     obtain ⟨b,r1⟩:=p
     have HT:=Aside0.mk ht
     have htl:=Ps.tk_len ht
     clear ht
     cases b with
     | false =>
      go_wp2_with (first | (go_at_call 271;refine (take_out (A.ps _ _ _ HI.out) Ps.sComma).mono ?_;intro e w3 ho;obtain ⟨hg,v,rfl,rfl,hp⟩:=ho.some HT.out;have hs3:=hg.size;have HI3:=Aside0.mk (A.go _ _ _ _ _ HI.out hg hp);have HG3:=Aside0.mk (HG.out.trans (Gs.of_gr hg A.at_));have HO3:=Aside0.mk (Gs.N (Gs.of_gr hg A.at_) HO.out (fun q hq hs => by have:=A.low q hs;omega));clear hg ho hp))
      go_ret
      obtain ⟨A5,c5,rfl⟩:=Kd.N_slice HO3.out
      have hr5:=(Kd.N_reads' HO3.out)
      exact OutG.of_some (by rw [← HM.out,lst_false HT.out]) HG3.out ⟨A5,c5,rfl,hr5.2.1,Kd.N_F HO3.out⟩ HI3.out
     | true =>
      have hl1:=htl.2.1 rfl
      cases hx:one sq r1 with
      | none =>
       have HX:=Aside0.mk hx
       clear hx
       go_wp2_with (first | (go_at_call 271;refine (take_out (A.ps _ _ _ HI.out) Ps.sComma).mono ?_;intro e w3 ho;obtain ⟨hg,v,rfl,rfl,hp⟩:=ho.some HT.out;have hs3:=hg.size;have HI3:=Aside0.mk (A.go _ _ _ _ _ HI.out hg hp);have HG3:=Aside0.mk (HG.out.trans (Gs.of_gr hg A.at_));have HO3:=Aside0.mk (Gs.N (Gs.of_gr hg A.at_) HO.out (fun q hq hs => by have:=A.low q hs;omega));clear hg ho hp) | (go_at_call 269;refine (HONE.out _ _ _ HI3.out (by have:=HL.out;have:=HB.out;omega)).mono ?_;intro e9 w5 ho;obtain ⟨hg,rfl⟩:=ho.none HX.out;have HG9:=Aside0.mk (HG3.out.trans hg);clear hg ho))
       exact ⟨rfl,OutG.of_none (by rw [← HM.out,lst_true_none HT.out HX.out]) HG9.out⟩
      | some p =>
       obtain ⟨⟨y,s2⟩,r2⟩:=p
       have HX:=Aside0.mk hx
       have hl2:=hlen _ _ _ _ _ hx
       clear hx
       go_wp2_with (first | (go_at_call 271;refine (take_out (A.ps _ _ _ HI.out) Ps.sComma).mono ?_;intro e w3 ho;obtain ⟨hg,v,rfl,rfl,hp⟩:=ho.some HT.out;have hs3:=hg.size;have HI3:=Aside0.mk (A.go _ _ _ _ _ HI.out hg hp);have HG3:=Aside0.mk (HG.out.trans (Gs.of_gr hg A.at_));have HO3:=Aside0.mk (Gs.N (Gs.of_gr hg A.at_) HO.out (fun q hq hs => by have:=A.low q hs;omega));clear hg ho hp) | (go_at_call 269;refine (HONE.out _ _ _ HI3.out (by have:=HL.out;have:=HB.out;omega)).mono ?_;intro e9 w5 ho;obtain ⟨hg,v,rfl,hv,hi⟩:=ho.some HX.out;have hs5:=hg.size;obtain ⟨Ax,nx,rfl,hnx,hf0⟩:=hv;have hfx:=FK90 hnx hf0;clear hnx hf0;unfold cells90;have HI5:=Aside0.mk hi;have HG5:=Aside0.mk (HG3.out.trans hg);have HX5:=Aside0.mk hfx;have HO5:=Aside0.mk (Gs.N hg HO3.out (fun q hq hs => by have:=A.low q hs;omega));clear hg ho hi hfx) | ((with_reducible refine gate_builtin (b:=.append) (xs:=#[.tmp 11,.tmp 14]) rfl ?_);at_builtin;refine Kd.N_append k90 (w0:=w5) w.heap.size rfl (.tmp 11) (.tmp 14) 58 90 ((.agg #[(.string ⟨#[]⟩),(.string ⟨#[]⟩),(.int .i64 0),(.int .i64 0),(.string ⟨#[]⟩),(.string ⟨#[]⟩),(.slice none 0 0)])) 104 rfl Tryz.underlying58 info90 rfl (by decide) (by omega) u5 acc y (cells90 y Ax nx) (fun q => w.heap.size ≤ q) (fun q => w3.heap.size ≤ q) rfl rfl HX5.out ?aP (fun q hq => by omega) HO5.out ((Below.refl w5.heap.size w5).mono (by omega)) (by omega) ?aL ?_;(case aP => exact fun q hq => ⟨by omega,fun he => by have:=Kd.N_lt HO3.out q he.symm;omega⟩);(case aL => have:=HB.out;have:=HNN.out;omega);intro v6 w6 ho hb hg hat;have HO6:=Aside0.mk ho;have HI6:=Aside0.mk (A.keep _ _ _ _ HI5.out hb);have HG6:=Aside0.mk (HG5.out.stepB hb (Nat.le_refl _));clear ho hb hg hat))
       go_roundg j
       case measure => have:=HL.out;omega
       case rel =>
        exact ⟨acc ++ [y],s2,r2,⟨by rw [← HM.out,lst_true_some HT.out HX.out]⟩,⟨by have:=HL.out;omega⟩,⟨by have:=HB.out;simp;omega⟩,HO6,HI6,HG6⟩
end Go.Proofs.YtcgdncpioafbdaaGreatDoor.Q
namespace Go.Proofs.YtcgdncpioafbdaaGreatDoor.Q
open Go Go.RowKit Go.Proofs.YtcgdncpioafbdaaGreatDoorW.PrintWords Go.Proofs.YtcgdncpioafbdaaGreatDoorW.PrintMore
def Vcol (B:Nat):World → S128 → Value → Prop:=fun _ x v => v = .agg #[.string x.f0,.int .i64 x.f1,.int .i64 x.f2]
theorem FK128 (w:World) (ok:Nat → Prop) (x:S128):Kd.FK k128 w ok x [.string x.f0,.int .i64 x.f1,.int .i64 x.f2]:=k128_mkF w ok x
set_option maxHeartbeats 2000000 in
set_option maxRecDepth 100000 in
theorem C_list {σ:Type} {w0 w:World} {g:Nat} {S:Nat → Prop} {I:σ → List S32 → World → Prop} {gs bp:Nat} (A:Along S I w0 g w.heap.size) (one:σ → List S32 → Option ((S128 × σ) × List S32)) (n k:Nat) (hn:n ≤ 4001)
  (hone:∀ st ts (w':World),I st ts w' → ts.length ≤ n → Calls Tryz.prog 262 #[.pointer (some ⟨bp,0,none⟩),.pointer (some ⟨gs,0,none⟩)] w' (OutG S I (Vcol w'.heap.size) w' (one st ts)))
  (hlen:∀ st ts x st' r,one st ts=some ((x,st'),r) → r.length ≤ ts.length) (st:σ) (ts:List S32) (h:I st ts w) (hts:ts.length ≤ n) (hk:ts.length < k) :
  Calls Tryz.prog 261 #[.pointer (some ⟨g,0,none⟩),.func (.func 262) #[] #[.pointer (some ⟨bp,0,none⟩),.pointer (some ⟨gs,0,none⟩)]] w (OutG S I (Vrow k128 w.heap.size) w (Ps.list one k st ts)):=by
 have HI:=Aside0.mk h
 have HONE:=Aside0.mk hone
 have HNN:=Aside0.mk hn
 clear h hone hn
 cases hx:one st ts with
 | none =>
  have HX:=Aside0.mk hx
  have HM:=Aside0.mk (show Ps.list one k st ts=none by simp only [Ps.list,hx])
  clear hx
  go_enter Tryz.func261,Tryz.ntmps261
  go_wp2_with (first | (go_at_call 262;refine (HONE.out _ _ _ HI.out (by omega)).mono ?_;intro e9 w2 ho;obtain ⟨hg,rfl⟩:=ho.none HX.out;have HG9:=Aside0.mk ((Gs.refl S w).trans hg);clear hg ho))
  exact ⟨rfl,OutG.of_none HM.out HG9.out⟩
 | some p =>
  obtain ⟨⟨x,st1⟩,r0⟩:=p
  have HX:=Aside0.mk hx
  have HM:=Aside0.mk (show Ps.list one k st ts=Ps.lst one k [x] st1 r0 by simp only [Ps.list,hx])
  have hl0:=hlen _ _ _ _ _ hx
  clear hx
  go_enter Tryz.func261,Tryz.ntmps261
  go_wp2_with (first | (go_at_call 262;refine (HONE.out _ _ _ HI.out (by omega)).mono ?_;intro e9 w2 ho;obtain ⟨hg,v,rfl,hv,hi⟩:=ho.some HX.out;have hs2:=hg.size;obtain rfl:=hv;have hfx:=FK128 w2 (fun q => w.heap.size ≤ q) x;have HI2:=Aside0.mk hi;have HG2:=Aside0.mk ((Gs.refl S w).trans hg);have HX2:=Aside0.mk hfx;clear hg ho hi hfx) | ((with_reducible refine gate_dst (N:=8) rfl ?_);refine Kd.N_lit k128 (w0:=w2) w2.heap.size 128 ?hg (N':=8) ?hd (xs:=[x]) (inner:=[.string x.f0,.int .i64 x.f1,.int .i64 x.f2]) (ok:=fun q => w.heap.size ≤ q) (okp:=fun q => w.heap.size ≤ q) ?hr ?hp (fun _ hk => hk) (by omega) (Below.refl _ _) (Nat.le_refl _) (by simp) ?_;(case hd => rfl);(case hg => rfl);(case hr => first | (go_simp;done) | (go_simp;rfl));(case hp => exact Reps1 HX2.out (k128.K_len (Kd.FK_now HX2.out)));intro v5 w4 ho hb hg hat;have hs4:=hb.size;have HO4:=Aside0.mk (Kd.N_lower ho (show w.heap.size ≤ w2.heap.size by omega));have HI4:=Aside0.mk (A.keep _ _ _ _ HI2.out (hb.mono (by omega)));have HG4:=Aside0.mk (HG2.out.step hb);clear ho hb hg hat))
  go_loopg [5] k (fun kq v5 w' => ∃ (acc:List S128) (sq:σ) (tq:List S32),Aside0 (Ps.lst one kq acc sq tq=Ps.list one k st ts)∧Aside0 (tq.length < kq)∧Aside0 (acc.length + tq.length ≤ n + 1)∧Aside0 (Kd.N k128 128 w' w.heap.size (fun q => w.heap.size ≤ q) v5 acc)∧Aside0 (I sq tq w')∧Aside0 (Gs S w w'))
  case atStart => exact ⟨[x],st1,r0,⟨HM.out.symm⟩,⟨by omega⟩,⟨by simp;omega⟩,HO4,HI4,HG4⟩
  case round =>
   clear HM HX HO4 HI4 HG4 HI HX2 HI2 HG2
   obtain ⟨acc,sq,tq,HM,HL,HB,HO,HI,HG⟩:=hrel
   have hsr:=HG.out.size
   cases gk with
   | zero => exact absurd HL.out (by omega)
   | succ j =>
    cases ht:Ps.tk Ps.sComma tq with
    | none =>
     have HT:=Aside0.mk ht
     clear ht
     go_wp2_with (first | (go_at_call 271;refine (take_out (A.ps _ _ _ HI.out) Ps.sComma).mono ?_;intro e w3 ho;obtain ⟨hg,rfl⟩:=ho.none HT.out;have HG3:=Aside0.mk (HG.out.trans (Gs.of_gr hg A.at_));clear hg ho))
     exact ⟨rfl,OutG.of_none (by rw [← HM.out,lst_none HT.out]) HG3.out⟩
    | some p =>
     obtain ⟨b,r1⟩:=p
     have HT:=Aside0.mk ht
     have htl:=Ps.tk_len ht
     clear ht
     cases b with
     | false =>
      go_wp2_with (first | (go_at_call 271;refine (take_out (A.ps _ _ _ HI.out) Ps.sComma).mono ?_;intro e w3 ho;obtain ⟨hg,v,rfl,rfl,hp⟩:=ho.some HT.out;have hs3:=hg.size;have HI3:=Aside0.mk (A.go _ _ _ _ _ HI.out hg hp);have HG3:=Aside0.mk (HG.out.trans (Gs.of_gr hg A.at_));have HO3:=Aside0.mk (Gs.N (Gs.of_gr hg A.at_) HO.out (fun q hq hs => by have:=A.low q hs;omega));clear hg ho hp))
      go_ret
      obtain ⟨A5,c5,rfl⟩:=Kd.N_slice HO3.out
      have hr5:=(Kd.N_reads' HO3.out)
      exact OutG.of_some (by rw [← HM.out,lst_false HT.out]) HG3.out ⟨A5,c5,rfl,hr5.2.1,Kd.N_F HO3.out⟩ HI3.out
     | true =>
      have hl1:=htl.2.1 rfl
      cases hx:one sq r1 with
      | none =>
       have HX:=Aside0.mk hx
       clear hx
       go_wp2_with (first | (go_at_call 271;refine (take_out (A.ps _ _ _ HI.out) Ps.sComma).mono ?_;intro e w3 ho;obtain ⟨hg,v,rfl,rfl,hp⟩:=ho.some HT.out;have hs3:=hg.size;have HI3:=Aside0.mk (A.go _ _ _ _ _ HI.out hg hp);have HG3:=Aside0.mk (HG.out.trans (Gs.of_gr hg A.at_));have HO3:=Aside0.mk (Gs.N (Gs.of_gr hg A.at_) HO.out (fun q hq hs => by have:=A.low q hs;omega));clear hg ho hp) | (go_at_call 262;refine (HONE.out _ _ _ HI3.out (by have:=HL.out;have:=HB.out;omega)).mono ?_;intro e9 w5 ho;obtain ⟨hg,rfl⟩:=ho.none HX.out;have HG9:=Aside0.mk (HG3.out.trans hg);clear hg ho))
       exact ⟨rfl,OutG.of_none (by rw [← HM.out,lst_true_none HT.out HX.out]) HG9.out⟩
      | some p =>
       obtain ⟨⟨y,s2⟩,r2⟩:=p
       have HX:=Aside0.mk hx
       have hl2:=hlen _ _ _ _ _ hx
       clear hx
       go_wp2_with (first | (go_at_call 271;refine (take_out (A.ps _ _ _ HI.out) Ps.sComma).mono ?_;intro e w3 ho;obtain ⟨hg,v,rfl,rfl,hp⟩:=ho.some HT.out;have hs3:=hg.size;have HI3:=Aside0.mk (A.go _ _ _ _ _ HI.out hg hp);have HG3:=Aside0.mk (HG.out.trans (Gs.of_gr hg A.at_));have HO3:=Aside0.mk (Gs.N (Gs.of_gr hg A.at_) HO.out (fun q hq hs => by have:=A.low q hs;omega));clear hg ho hp) | (go_at_call 262;refine (HONE.out _ _ _ HI3.out (by have:=HL.out;have:=HB.out;omega)).mono ?_;intro e9 w5 ho;obtain ⟨hg,v,rfl,hv,hi⟩:=ho.some HX.out;have hs5:=hg.size;obtain rfl:=hv;have hfx:=FK128 w5 (fun q => w3.heap.size ≤ q) y;have HI5:=Aside0.mk hi;have HG5:=Aside0.mk (HG3.out.trans hg);have HX5:=Aside0.mk hfx;have HO5:=Aside0.mk (Gs.N hg HO3.out (fun q hq hs => by have:=A.low q hs;omega));clear hg ho hi hfx) | ((with_reducible refine gate_builtin (b:=.append) (xs:=#[.tmp 11,.tmp 14]) rfl ?_);at_builtin;refine Kd.N_append k128 (w0:=w5) w.heap.size rfl (.tmp 11) (.tmp 14) 56 128 ((.agg #[(.string ⟨#[]⟩),(.int .i64 0),(.int .i64 0)])) 32 rfl Tryz.underlying56 info128 rfl (by decide) (by omega) u5 acc y [.string y.f0,.int .i64 y.f1,.int .i64 y.f2] (fun q => w.heap.size ≤ q) (fun q => w3.heap.size ≤ q) rfl rfl HX5.out ?aP (fun q hq => by omega) HO5.out ((Below.refl w5.heap.size w5).mono (by omega)) (by omega) ?aL ?_;(case aP => exact fun q hq => ⟨by omega,fun he => by have:=Kd.N_lt HO3.out q he.symm;omega⟩);(case aL => have:=HB.out;have:=HNN.out;omega);intro v6 w6 ho hb hg hat;have HO6:=Aside0.mk ho;have HI6:=Aside0.mk (A.keep _ _ _ _ HI5.out hb);have HG6:=Aside0.mk (HG5.out.stepB hb (Nat.le_refl _));clear ho hb hg hat))
       go_roundg j
       case measure => have:=HL.out;omega
       case rel =>
        exact ⟨acc ++ [y],s2,r2,⟨by rw [← HM.out,lst_true_some HT.out HX.out]⟩,⟨by have:=HL.out;omega⟩,⟨by have:=HB.out;simp;omega⟩,HO6,HI6,HG6⟩
end Go.Proofs.YtcgdncpioafbdaaGreatDoor.Q
namespace Go.Proofs.YtcgdncpioafbdaaGreatDoor.Q
open Go Go.RowKit Go.Proofs.YtcgdncpioafbdaaGreatDoorW.PrintWords
set_option maxHeartbeats 1000000 in
set_option maxRecDepth 100000 in
theorem set_out {w0 w:World} {g:Nat} {ts:List S32} (h:PS w0 g ts w) {k:Nat} (hk:2 * ts.length + 1 ≤ k):Calls Tryz.prog 269 #[.pointer (some ⟨g,0,none⟩)] w (Out w0 g (Vset w.heap.size) w (Ps.set k ts)):=by
 have HP:=Aside0.mk h
 clear h
 have hlt:=HP.out.lt
 have hlow:=HP.out.low
 cases hn:Ps.nm ts with
 | none =>
  have HN:=Aside0.mk hn
  have HM:=Aside0.mk (show Ps.set k ts=none by simp only [Ps.set,hn])
  clear hn
  go_enter Tryz.func269,Tryz.ntmps269
  go_wp2_with (first | (go_at_call 260;refine (name_out (HP.out.alloc _)).mono ?_;intro e9 w2 ho;obtain ⟨hg,rfl⟩:=ho.none HN.out;have HGN:=Aside0.mk (((Gr.refl g w).alloc _).trans hg);clear hg ho))
  exact ⟨rfl,Out.of_none HM.out HGN.out⟩
 | some p =>
  obtain ⟨c,r⟩:=p
  have HN:=Aside0.mk hn
  cases hu:Ps.ms [Ps.sEq] r with
  | none =>
   have HU:=Aside0.mk hu
   have HM:=Aside0.mk (show Ps.set k ts=none by simp only [Ps.set,hn,hu])
   clear hn hu
   go_enter Tryz.func269,Tryz.ntmps269
   go_wp2_with (first | (go_at_call 260;refine (name_out (HP.out.alloc _)).mono ?_;intro e9 w2 ho;obtain ⟨hg,v,rfl,rfl,hp⟩:=ho.some HN.out;have BR2:=Aside0.mk (hg.blk (new_blk (W:=w) _ rfl) (by omega));have hs2:w.heap.size < w2.heap.size:=blk_lt BR2.out;have HQ2:=Aside0.mk hp;have HG2:=Aside0.mk (((Gr.refl g w).alloc _).trans hg);clear hg ho hp) | (go_at_call 259;refine (must1 HQ2.out (by simp) Ps.sEq 1).mono ?_;intro e7 w3 ho;obtain ⟨hg,rfl⟩:=ho.none (msU_none HU.out);have HGN:=Aside0.mk (HG2.out.trans hg);clear hg ho))
   exact ⟨rfl,Out.of_none HM.out HGN.out⟩
  | some r1 =>
   have HU:=Aside0.mk hu
   cases hx:Ps.expr k 0 r1 with
   | none =>
    have HX:=Aside0.mk hx
    have HM:=Aside0.mk (show Ps.set k ts=none by simp only [Ps.set,hn,hu,hx])
    clear hn hu hx
    go_enter Tryz.func269,Tryz.ntmps269
    go_wp2_with (first | (go_at_call 260;refine (name_out (HP.out.alloc _)).mono ?_;intro e9 w2 ho;obtain ⟨hg,v,rfl,rfl,hp⟩:=ho.some HN.out;have BR2:=Aside0.mk (hg.blk (new_blk (W:=w) _ rfl) (by omega));have hs2:w.heap.size < w2.heap.size:=blk_lt BR2.out;have HQ2:=Aside0.mk hp;have HG2:=Aside0.mk (((Gr.refl g w).alloc _).trans hg);clear hg ho hp) | (go_at_call 259;refine (must1 HQ2.out (by simp) Ps.sEq 1).mono ?_;intro e7 w3 ho;obtain ⟨hg,v,rfl,rfl,hp⟩:=ho.some (msU_some HU.out);have BR3:=Aside0.mk (hg.blk BR2.out (by omega));have hs3:w.heap.size < w3.heap.size:=blk_lt BR3.out;have HQ3:=Aside0.mk hp;have HG3:=Aside0.mk (HG2.out.trans hg);clear hg ho hp) | (go_at_call 326;refine (any_out HQ3.out (k:=k) (by have:=Ps.nm_len HN.out;have:=Ps.ms_len HU.out;omega)).mono ?_;intro e9 w4 ho;obtain ⟨hg,rfl⟩:=ho.none HX.out;have HG4:=Aside0.mk (HG3.out.trans hg);clear hg ho))
    exact ⟨rfl,Out.of_none HM.out HG4.out⟩
   | some p =>
    obtain ⟨x,r2⟩:=p
    have HX:=Aside0.mk hx
    have HM:=Aside0.mk (show Ps.set k ts=some (⟨c,x⟩,r2) by simp only [Ps.set,hn,hu,hx])
    clear hn hu hx
    go_enter Tryz.func269,Tryz.ntmps269
    go_wp2_with (first | (go_at_call 260;refine (name_out (HP.out.alloc _)).mono ?_;intro e9 w2 ho;obtain ⟨hg,v,rfl,rfl,hp⟩:=ho.some HN.out;have BR2:=Aside0.mk (hg.blk (new_blk (W:=w) _ rfl) (by omega));have hs2:w.heap.size < w2.heap.size:=blk_lt BR2.out;have HQ2:=Aside0.mk hp;have HG2:=Aside0.mk (((Gr.refl g w).alloc _).trans hg);clear hg ho hp) | (go_at_call 259;refine (must1 HQ2.out (by simp) Ps.sEq 1).mono ?_;intro e7 w3 ho;obtain ⟨hg,v,rfl,rfl,hp⟩:=ho.some (msU_some HU.out);have BR3:=Aside0.mk (hg.blk BR2.out (by omega));have hs3:w.heap.size < w3.heap.size:=blk_lt BR3.out;have HQ3:=Aside0.mk hp;have HG3:=Aside0.mk (HG2.out.trans hg);clear hg ho hp) | (go_at_call 326;refine (any_out HQ3.out (k:=k) (by have:=Ps.nm_len HN.out;have:=Ps.ms_len HU.out;omega)).mono ?_;intro e9 w4 ho;obtain ⟨hg,v,rfl,hv,hp⟩:=ho.some HX.out;obtain ⟨Ax,nx,rfl,hnx,hfx⟩:=hv;have BR4:=Aside0.mk (hg.blk BR3.out (by omega));have hs4:w.heap.size < w4.heap.size:=blk_lt BR4.out;have r4c0:w4.cell? ⟨w.heap.size,0,none⟩=some (.string ⟨#[]⟩):=(blk_cell BR4.out 0).trans rfl;have r4c1:w4.cell? ⟨w.heap.size,1,none⟩=some (.string ⟨#[]⟩):=(blk_cell BR4.out 1).trans rfl;have r4c2:w4.cell? ⟨w.heap.size,2,none⟩=some (.int .i64 0):=(blk_cell BR4.out 2).trans rfl;have r4c3:w4.cell? ⟨w.heap.size,3,none⟩=some (.int .i64 0):=(blk_cell BR4.out 3).trans rfl;have r4c4:w4.cell? ⟨w.heap.size,4,none⟩=some (.string ⟨#[]⟩):=(blk_cell BR4.out 4).trans rfl;have r4c5:w4.cell? ⟨w.heap.size,5,none⟩=some (.string ⟨#[]⟩):=(blk_cell BR4.out 5).trans rfl;have r4c6:w4.cell? ⟨w.heap.size,6,none⟩=some (.slice none 0 0):=(blk_cell BR4.out 6).trans rfl;have r4z0:=blk_frozen BR4.out 0;have r4z1:=blk_frozen BR4.out 1;have r4z2:=blk_frozen BR4.out 2;have r4z3:=blk_frozen BR4.out 3;have r4z4:=blk_frozen BR4.out 4;have r4z5:=blk_frozen BR4.out 5;have r4z6:=blk_frozen BR4.out 6;have HQ4:=Aside0.mk hp;have HG4:=Aside0.mk (HG3.out.trans hg);have HNX:=Aside0.mk hnx;have HFX:=Aside0.mk (Kd.F_mono hfx (ok':=fun q => w.heap.size < q) (fun q hq => by omega));clear hg ho hp hnx hfx;unfold cells43))
    refine bodyPost_ret (v:=.agg (cells90 ⟨c,x⟩ Ax nx).toArray) ?_ rfl ?_
    ·simp [results,Tryz.results269,go_sem,cells90,r4c0,r4z0,r4c1,r4z1,r4c2,r4z2,r4c3,r4z3,r4c4,r4z4,r4c5,r4z5,r4c6,r4z6,hs4]
    ·refine Out.of_some HM.out ?_ ⟨Ax,nx,rfl,HNX.out,?_⟩ ?_
     ·with_reducible (repeat (first | exact HG4.out | refine Gr.setB ?_ (Nat.le_refl _) _ _))
     ·refine Kd.F_mono (ok:=fun q => w.heap.size < q) ?_ (fun q hq => Nat.le_of_lt hq)
      with_reducible (repeat (refine Kd.F_far ?_ (fun q hq => Nat.ne_of_gt hq) _))
      exact HFX.out
     ·with_reducible (repeat (first | exact HQ4.out | refine PS.setB ?_ (by omega) (by omega) _ _))
theorem set_len {k:Nat} {ts r:List S32} {x:S90} (h:Ps.set k ts=some (x,r)):r.length ≤ ts.length:=by
 unfold Ps.set at h
 cases hn:Ps.nm ts with
 | none => rw [hn] at h;cases h
 | some p =>
  obtain ⟨c,r1⟩:=p
  rw [hn] at h
  simp only at h
  cases hu:Ps.ms [Ps.sEq] r1 with
  | none => rw [hu] at h;cases h
  | some r2 =>
   rw [hu] at h
   simp only at h
   cases hx:Ps.expr k 0 r2 with
   | none => rw [hx] at h;cases h
   | some p =>
    obtain ⟨y,r3⟩:=p
    rw [hx] at h
    cases h
    have h1:=Ps.nm_len hn
    have h2:=Ps.ms_len hu
    have h3:=Ps.expr_len hx
    omega
def stC (n key:ByteArray):Array Value:=#[.int .i64 1,.string n,.slice none 0 0,.string key,.slice none 0 0,.slice none 0 0,.slice none 0 0,.slice none 0 0,.string ⟨#[]⟩,.bool false,.int .i64 (-1)]
structure Icol (w0:World) (g gs bp:Nat) (n key:ByteArray) (ts:List S32) (w:World):Prop where
 ps:PS w0 g ts w
 st:w.heap[gs]? = some (.cells (stC n key) 60 (0,0))
 box:w.heap[bp]? = some (.cells #[.pointer (some ⟨g,0,none⟩)] 229 (0,0))
 low:w0.heap.size ≤ gs
 ne:gs ≠ g
 bpg:bp ≠ g
 bps:bp ≠ gs
set_option maxHeartbeats 2000000 in
set_option maxRecDepth 100000 in
theorem column_out {w0 w:World} {g gs bp:Nat} {n key:ByteArray} {ts:List S32} (h:Icol w0 g gs bp n key ts w):Calls Tryz.prog 263 #[.pointer (some ⟨g,0,none⟩),.pointer (some ⟨gs,0,none⟩)] w (OutG (fun q => q=g ∨ q=gs) (Icol w0 g gs bp n) (Vcol w.heap.size) w (Ps.column key ts)):=by
 have HP:=Aside0.mk h.ps
 have BS:=Aside0.mk h.st
 have HI:=Aside0.mk h
 have hne:=h.ne
 have hglow:=h.low
 clear h
 have hlt:=HP.out.lt
 have hlow:=HP.out.low
 have hgs:gs < w.heap.size:=blk_lt BS.out
 have hbp:bp < w.heap.size:=blk_lt HI.out.box
 have hbps:=HI.out.bps
 cases hn:Ps.nm ts with
 | none =>
  have HN:=Aside0.mk hn
  have HM:=Aside0.mk (show Ps.column key ts=none by simp only [Ps.column,hn])
  clear hn
  go_enter Tryz.func263,Tryz.ntmps263
  go_wp2_with (first | (go_at_call 260;refine (name_out (HP.out.alloc _)).mono ?_;intro e9 w2 ho;obtain ⟨hg,rfl⟩:=ho.none HN.out;have HGN:=Aside0.mk (((Gr.refl g w).alloc _).trans hg);clear hg ho))
  exact ⟨rfl,OutG.of_none HM.out (Gs.of_gr HGN.out (.inl rfl))⟩
 | some p =>
  obtain ⟨c,r⟩:=p
  have HN:=Aside0.mk hn
  cases ht:Ps.tk Ps.sText r with
  | none =>
   have HT:=Aside0.mk ht
   have HM:=Aside0.mk (show Ps.column key ts=none by simp only [Ps.column,hn,ht])
   clear hn ht
   go_enter Tryz.func263,Tryz.ntmps263
   go_wp2_with (first | (go_at_call 260;refine (name_out (HP.out.alloc _)).mono ?_;intro e9 w1 ho;obtain ⟨hg,v,rfl,rfl,hp⟩:=ho.some HN.out;have BR1:=Aside0.mk (hg.blk (new_blk (W:=w) _ rfl) (by omega));have BS1:=Aside0.mk (hg.blk (blk_alloc BS.out _) (by omega));have hs1:w.heap.size < w1.heap.size:=blk_lt BR1.out;have HQ1:=Aside0.mk hp;have HG1:=Aside0.mk (((Gr.refl g w).alloc _).trans hg);clear hg ho hp) | (go_at_call 271;refine (take_out (HQ1.out.alloc _) Ps.sText).mono ?_;intro e7 w2 ho;obtain ⟨hg,rfl⟩:=ho.none HT.out;have HGN:=Aside0.mk ((HG1.out.alloc _).trans hg);clear hg ho))
   exact ⟨rfl,OutG.of_none HM.out (Gs.of_gr HGN.out (.inl rfl))⟩
  | some p =>
   obtain ⟨b,r1⟩:=p
   have HT:=Aside0.mk ht
   clear hn ht
   go_enter Tryz.func263,Tryz.ntmps263
   go_upto_if 10 with (first | (go_at_call 260;refine (name_out (HP.out.alloc _)).mono ?_;intro e9 w1 ho;obtain ⟨hg,v,rfl,rfl,hp⟩:=ho.some HN.out;have BR1:=Aside0.mk (hg.blk (new_blk (W:=w) _ rfl) (by omega));have BS1:=Aside0.mk (hg.blk (blk_alloc BS.out _) (by omega));have hs1:w.heap.size < w1.heap.size:=blk_lt BR1.out;have HQ1:=Aside0.mk hp;have HG1:=Aside0.mk (((Gr.refl g w).alloc _).trans hg);clear hg ho hp) | (go_at_call 271;refine (take_out (HQ1.out.alloc _) Ps.sText).mono ?_;intro e7 w2 ho;obtain ⟨hg,v,rfl,rfl,hp⟩:=ho.some HT.out;have BR2:=Aside0.mk (hg.blk (blk_alloc BR1.out _) (by omega));have BS2:=Aside0.mk (hg.blk (blk_alloc BS1.out _) (by omega));have BC2:=Aside0.mk (hg.blk (new_blk (W:=w1) _ rfl) (by omega));have hs2:w1.heap.size < w2.heap.size:=blk_lt BC2.out;have c2c0:w2.cell? ⟨w1.heap.size,0,none⟩=some (.string c):=(blk_cell BC2.out 0).trans rfl;have c2c1:w2.cell? ⟨w1.heap.size,1,none⟩=some (.int .i64 1):=(blk_cell BC2.out 1).trans rfl;have c2c2:w2.cell? ⟨w1.heap.size,2,none⟩=some (.int .i64 0):=(blk_cell BC2.out 2).trans rfl;have c2z0:=blk_frozen BC2.out 0;have c2z1:=blk_frozen BC2.out 1;have c2z2:=blk_frozen BC2.out 2;have HQ2:=Aside0.mk hp;have HG2:=Aside0.mk ((HG1.out.alloc _).trans hg);clear hg ho hp))
   go_cut [] (fun wc => ∃ (kind:Int) (r2:List S32),Aside0 (Ps.column key ts=Ps.colB key c kind r2)∧Aside0 (wc.heap[w1.heap.size]? = some (.cells #[.string c,.int .i64 kind,.int .i64 0] 128 (0,0)))∧Aside0 (wc.heap[w.heap.size]? = some (.cells #[.string ⟨#[]⟩,.int .i64 0,.int .i64 0] 128 (0,0)))∧Aside0 (wc.heap[gs]? = some (.cells (stC n key) 60 (0,0)))∧Aside0 (PS w0 g r2 wc)∧Aside0 (Gr g w wc))
   case first =>
    cases b with
    | true =>
     have HM:=Aside0.mk (show Ps.column key ts=Ps.colB key c 2 r1 by simp only [Ps.column,HN.out,HT.out])
     go_wp2
     go_meet
     case rel =>
      exact ⟨2,r1,HM,⟨blk_put BC2.out 1 _ rfl⟩,⟨blk_setNe BR2.out (by omega) _ _⟩,⟨blk_setNe BS2.out (by omega) _ _⟩,⟨PS.setB HQ2.out (by omega) (by omega) _ _⟩,⟨Gr.setB HG2.out (by omega) _ _⟩⟩
    | false =>
     cases hu:Ps.ms [Ps.sInt] r1 with
     | none =>
      have HU:=Aside0.mk hu
      have HM:=Aside0.mk (show Ps.column key ts=none by simp only [Ps.column,HN.out,HT.out,hu])
      clear hu
      go_wp2_with (first | (go_at_call 259;refine (must1 HQ2.out (by simp) Ps.sInt 1).mono ?_;intro e7 w3 ho;obtain ⟨hg,rfl⟩:=ho.none (msU_none HU.out);have HGN:=Aside0.mk (HG2.out.trans hg);clear hg ho))
      exact ⟨rfl,OutG.of_none HM.out (Gs.of_gr HGN.out (.inl rfl))⟩
     | some r2 =>
      have HU:=Aside0.mk hu
      have HM:=Aside0.mk (show Ps.column key ts=Ps.colB key c 1 r2 by simp only [Ps.column,HN.out,HT.out,hu])
      clear hu
      go_wp2_with (first | (go_at_call 259;refine (must1 HQ2.out (by simp) Ps.sInt 1).mono ?_;intro e7 w3 ho;obtain ⟨hg,v,rfl,rfl,hp⟩:=ho.some (msU_some HU.out);have HG3:=Aside0.mk (HG2.out.trans hg);have BR3:=Aside0.mk (hg.blk BR2.out (by omega));have BS3:=Aside0.mk (hg.blk BS2.out (by omega));have BC3:=Aside0.mk (hg.blk BC2.out (by omega));have HQ3:=Aside0.mk hp;clear hg ho hp))
      go_meet
      case rel =>
       exact ⟨1,r2,HM,BC3,BR3,BS3,HQ3,HG3⟩
   case rest =>
    clear BR1 BS1 HQ1 HG1 BR2 BS2 BC2 HQ2 HG2 HT c2c0 c2c1 c2c2 c2z0 c2z1 c2z2
    obtain ⟨kind,r2,HM,BC3,BR3,BS3,HQ3,HG3⟩:=hcut
    have hm:=HM.out
    unfold Ps.colB at hm
    clear HM
    cases hd:Ps.tk Ps.sDet r2 with
    | none =>
     rw [hd] at hm
     have HD:=Aside0.mk hd
     have HM:=Aside0.mk hm
     clear hd hm
     go_wp2_with (first | (go_at_call 271;refine (take_out HQ3.out Ps.sDet).mono ?_;intro e7 w4 ho;obtain ⟨hg,rfl⟩:=ho.none HD.out;have HGN:=Aside0.mk (HG3.out.trans hg);clear hg ho))
     exact ⟨rfl,OutG.of_none HM.out (Gs.of_gr HGN.out (.inl rfl))⟩
    | some p =>
     obtain ⟨d,r3⟩:=p
     rw [hd] at hm
     simp only at hm
     have HD:=Aside0.mk hd
     have HM:=Aside0.mk hm
     clear hd hm
     go_upto_if 16 with (first | (go_at_call 271;refine (take_out HQ3.out Ps.sDet).mono ?_;intro e7 w4 ho;obtain ⟨hg,v,rfl,rfl,hp⟩:=ho.some HD.out;have BR4:=Aside0.mk (hg.blk BR3.out (by omega));have BS4:=Aside0.mk (hg.blk BS3.out (by omega));have BC4:=Aside0.mk (hg.blk BC3.out (by omega));have hs4:w1.heap.size < w4.heap.size:=blk_lt BC4.out;have c4c0:w4.cell? ⟨w1.heap.size,0,none⟩=some (.string c):=(blk_cell BC4.out 0).trans rfl;have c4c1:w4.cell? ⟨w1.heap.size,1,none⟩=some (.int .i64 kind):=(blk_cell BC4.out 1).trans rfl;have c4c2:w4.cell? ⟨w1.heap.size,2,none⟩=some (.int .i64 0):=(blk_cell BC4.out 2).trans rfl;have c4z0:=blk_frozen BC4.out 0;have c4z1:=blk_frozen BC4.out 1;have c4z2:=blk_frozen BC4.out 2;have HQ4:=Aside0.mk hp;have HG4:=Aside0.mk (HG3.out.trans hg);clear hg ho hp))
     go_cut [] (fun wd => ∃ (how:Int),Aside0 (how=if d=true then 1 else 0)∧Aside0 (wd.heap[w1.heap.size]? = some (.cells #[.string c,.int .i64 kind,.int .i64 how] 128 (0,0)))∧Aside0 (wd.heap[w.heap.size]? = some (.cells #[.string ⟨#[]⟩,.int .i64 0,.int .i64 0] 128 (0,0)))∧Aside0 (wd.heap[gs]? = some (.cells (stC n key) 60 (0,0)))∧Aside0 (PS w0 g r3 wd)∧Aside0 (Gr g w wd))
     case first =>
      cases d with
      | true =>
       go_wp2
       go_meet
       case rel =>
        exact ⟨1,⟨rfl⟩,⟨blk_put BC4.out 2 _ rfl⟩,⟨blk_setNe BR4.out (by omega) _ _⟩,⟨blk_setNe BS4.out (by omega) _ _⟩,⟨PS.setB HQ4.out (by omega) (by omega) _ _⟩,⟨Gr.setB HG4.out (by omega) _ _⟩⟩
      | false =>
       go_wp2
       go_meet
       case rel =>
        exact ⟨0,⟨rfl⟩,BC4,BR4,BS4,HQ4,HG4⟩
     case rest =>
      obtain ⟨how,HH,BC5,BR5,BS5,HQ5,HG5⟩:=hcut
      have hm:=HM.out
      clear HM
      rw [← HH.out] at hm
      cases hk:Ps.tk Ps.sKey r3 with
      | none =>
       rw [hk] at hm
       have HK:=Aside0.mk hk
       have HM:=Aside0.mk hm
       clear hk hm
       go_wp2_with (first | (go_at_call 271;refine (take_out HQ5.out Ps.sKey).mono ?_;intro e7 w6 ho;obtain ⟨hg,rfl⟩:=ho.none HK.out;have HGN:=Aside0.mk (HG5.out.trans hg);clear hg ho))
       exact ⟨rfl,OutG.of_none HM.out (Gs.of_gr HGN.out (.inl rfl))⟩
      | some p =>
       obtain ⟨b2,r4⟩:=p
       rw [hk] at hm
       have HK:=Aside0.mk hk
       clear hk
       cases b2 with
       | false =>
        simp only at hm
        have HM:=Aside0.mk hm
        clear hm
        go_wp2_with (first | (go_at_call 271;refine (take_out HQ5.out Ps.sKey).mono ?_;intro e7 w6 ho;obtain ⟨hg,v,rfl,rfl,hp⟩:=ho.some HK.out;have BR6:=Aside0.mk (hg.blk BR5.out (by omega));have BS6:=Aside0.mk (hg.blk BS5.out (by omega));have BC6:=Aside0.mk (hg.blk BC5.out (by omega));have hs6:w1.heap.size < w6.heap.size:=blk_lt BC6.out;have hr6:w.heap.size < w6.heap.size:=blk_lt BR6.out;have c6c0:w6.cell? ⟨w1.heap.size,0,none⟩=some (.string c):=(blk_cell BC6.out 0).trans rfl;have c6c1:w6.cell? ⟨w1.heap.size,1,none⟩=some (.int .i64 kind):=(blk_cell BC6.out 1).trans rfl;have c6c2:w6.cell? ⟨w1.heap.size,2,none⟩=some (.int .i64 how):=(blk_cell BC6.out 2).trans rfl;have c6z0:=blk_frozen BC6.out 0;have c6z1:=blk_frozen BC6.out 1;have c6z2:=blk_frozen BC6.out 2;have r6c0:w6.cell? ⟨w.heap.size,0,none⟩=some (.string ⟨#[]⟩):=(blk_cell BR6.out 0).trans rfl;have r6c1:w6.cell? ⟨w.heap.size,1,none⟩=some (.int .i64 0):=(blk_cell BR6.out 1).trans rfl;have r6c2:w6.cell? ⟨w.heap.size,2,none⟩=some (.int .i64 0):=(blk_cell BR6.out 2).trans rfl;have r6z0:=blk_frozen BR6.out 0;have r6z1:=blk_frozen BR6.out 1;have r6z2:=blk_frozen BR6.out 2;have s6c3:w6.cell? ⟨gs,3,none⟩=some (.string key):=(blk_cell BS6.out 3).trans rfl;have s6z3:=blk_frozen BS6.out 3;have HQ6:=Aside0.mk hp;have HG6:=Aside0.mk (HG5.out.trans hg);clear hg ho hp))
        refine bodyPost_ret (v:=.agg #[.string c,.int .i64 kind,.int .i64 how]) ?_ rfl ?_
        ·simp [results,Tryz.results263,go_sem,r6c0,r6z0,r6c1,r6z1,r6c2,r6z2,hr6]
        ·refine OutG.of_some HM.out (Gs.of_gr ?_ (.inl rfl)) rfl ⟨?_,?_,?_,hglow,hne,HI.out.bpg,HI.out.bps⟩
         ·with_reducible (repeat (first | exact HG6.out | refine Gr.setB ?_ (Nat.le_refl _) _ _))
         ·with_reducible (repeat (first | exact HQ6.out | refine PS.setB ?_ (by omega) (by omega) _ _))
         ·with_reducible (repeat (first | exact BS6.out | refine blk_setNe ?_ (by omega) _ _))
         ·with_reducible (repeat (first | exact HG6.out.blk HI.out.box HI.out.bpg | refine blk_setNe ?_ (by omega) _ _))
       | true =>
        simp only at hm
        by_cases ke:key.toList=[]
        ·rw [if_pos ke] at hm
         have k0:(key.toList == [])=true:=beq_iff_eq.mpr ke
         have k1:(key.toList != [])=false:=bne_eq_false_iff_eq.mpr ke
         have HM:=Aside0.mk hm
         clear hm ke
         go_wp2_with (first | (go_at_call 271;refine (take_out HQ5.out Ps.sKey).mono ?_;intro e7 w6 ho;obtain ⟨hg,v,rfl,rfl,hp⟩:=ho.some HK.out;have BR6:=Aside0.mk (hg.blk BR5.out (by omega));have BS6:=Aside0.mk (hg.blk BS5.out (by omega));have BC6:=Aside0.mk (hg.blk BC5.out (by omega));have hs6:w1.heap.size < w6.heap.size:=blk_lt BC6.out;have hr6:w.heap.size < w6.heap.size:=blk_lt BR6.out;have c6c0:w6.cell? ⟨w1.heap.size,0,none⟩=some (.string c):=(blk_cell BC6.out 0).trans rfl;have c6c1:w6.cell? ⟨w1.heap.size,1,none⟩=some (.int .i64 kind):=(blk_cell BC6.out 1).trans rfl;have c6c2:w6.cell? ⟨w1.heap.size,2,none⟩=some (.int .i64 how):=(blk_cell BC6.out 2).trans rfl;have c6z0:=blk_frozen BC6.out 0;have c6z1:=blk_frozen BC6.out 1;have c6z2:=blk_frozen BC6.out 2;have r6c0:w6.cell? ⟨w.heap.size,0,none⟩=some (.string ⟨#[]⟩):=(blk_cell BR6.out 0).trans rfl;have r6c1:w6.cell? ⟨w.heap.size,1,none⟩=some (.int .i64 0):=(blk_cell BR6.out 1).trans rfl;have r6c2:w6.cell? ⟨w.heap.size,2,none⟩=some (.int .i64 0):=(blk_cell BR6.out 2).trans rfl;have r6z0:=blk_frozen BR6.out 0;have r6z1:=blk_frozen BR6.out 1;have r6z2:=blk_frozen BR6.out 2;have s6c3:w6.cell? ⟨gs,3,none⟩=some (.string key):=(blk_cell BS6.out 3).trans rfl;have s6z3:=blk_frozen BS6.out 3;have HQ6:=Aside0.mk hp;have HG6:=Aside0.mk (HG5.out.trans hg);clear hg ho hp))
         refine bodyPost_ret (v:=.agg #[.string c,.int .i64 kind,.int .i64 how]) ?_ rfl ?_
         ·simp [results,Tryz.results263,go_sem,r6c0,r6z0,r6c1,r6z1,r6c2,r6z2,hr6,hgs]
         ·refine OutG.of_some HM.out ?_ rfl ⟨?_,?_,?_,hglow,hne,HI.out.bpg,HI.out.bps⟩
          ·with_reducible (repeat (first | exact Gs.of_gr HG6.out (.inl rfl) | refine Gs.setB ?_ (Nat.le_refl _) _ _ | refine Gs.setS ?_ (Or.inr rfl) _ _))
          ·with_reducible (repeat (first | exact HQ6.out | refine PS.setB ?_ (by omega) (by omega) _ _))
          ·exact blk_setNe (blk_setNe (blk_setNe (blk_put BS6.out 3 _ rfl) (by omega) _ _) (by omega) _ _) (by omega) _ _
          ·with_reducible (repeat (first | exact HG6.out.blk HI.out.box HI.out.bpg | refine blk_setNe ?_ (by omega) _ _))
        ·rw [if_neg ke] at hm
         have k0:(key.toList == [])=false:=beq_eq_false_iff_ne.mpr ke
         have k1:(key.toList != [])=true:=bne_iff_ne.mpr ke
         have HM:=Aside0.mk hm
         clear hm ke
         go_wp2_with (first | (go_at_call 271;refine (take_out HQ5.out Ps.sKey).mono ?_;intro e7 w6 ho;obtain ⟨hg,v,rfl,rfl,hp⟩:=ho.some HK.out;have BR6:=Aside0.mk (hg.blk BR5.out (by omega));have BS6:=Aside0.mk (hg.blk BS5.out (by omega));have BC6:=Aside0.mk (hg.blk BC5.out (by omega));have hs6:w1.heap.size < w6.heap.size:=blk_lt BC6.out;have hr6:w.heap.size < w6.heap.size:=blk_lt BR6.out;have c6c0:w6.cell? ⟨w1.heap.size,0,none⟩=some (.string c):=(blk_cell BC6.out 0).trans rfl;have c6c1:w6.cell? ⟨w1.heap.size,1,none⟩=some (.int .i64 kind):=(blk_cell BC6.out 1).trans rfl;have c6c2:w6.cell? ⟨w1.heap.size,2,none⟩=some (.int .i64 how):=(blk_cell BC6.out 2).trans rfl;have c6z0:=blk_frozen BC6.out 0;have c6z1:=blk_frozen BC6.out 1;have c6z2:=blk_frozen BC6.out 2;have r6c0:w6.cell? ⟨w.heap.size,0,none⟩=some (.string ⟨#[]⟩):=(blk_cell BR6.out 0).trans rfl;have r6c1:w6.cell? ⟨w.heap.size,1,none⟩=some (.int .i64 0):=(blk_cell BR6.out 1).trans rfl;have r6c2:w6.cell? ⟨w.heap.size,2,none⟩=some (.int .i64 0):=(blk_cell BR6.out 2).trans rfl;have r6z0:=blk_frozen BR6.out 0;have r6z1:=blk_frozen BR6.out 1;have r6z2:=blk_frozen BR6.out 2;have s6c3:w6.cell? ⟨gs,3,none⟩=some (.string key):=(blk_cell BS6.out 3).trans rfl;have s6z3:=blk_frozen BS6.out 3;have HQ6:=Aside0.mk hp;have HG6:=Aside0.mk (HG5.out.trans hg);clear hg ho hp) | (go_at_call 264;refine (fail_calls g _).mono ?_;rintro e8 w8 ⟨rfl,rfl⟩))
         exact ⟨rfl,OutG.of_none HM.out (Gs.of_gr HG6.out (.inl rfl))⟩
theorem Icol.alloc {w0 w:World} {g gs bp:Nat} {n key:ByteArray} {ts:List S32} (h:Icol w0 g gs bp n key ts w) (o:Obj):Icol w0 g gs bp n key ts (w.alloc o):=⟨h.ps.alloc _,blk_alloc h.st _,blk_alloc h.box _,h.low,h.ne,h.bpg,h.bps⟩
theorem Icol.setB {w0 w:World} {g gs bp:Nat} {n key:ByteArray} {ts:List S32} (h:Icol w0 g gs bp n key ts w) {b:Nat} (hb:w0.heap.size ≤ b) (h1:b ≠ g) (h2:b ≠ gs) (h3:b ≠ bp) (j:Nat) (v:Value):Icol w0 g gs bp n key ts (w.setCell ⟨b,j,none⟩ v) :=
 ⟨h.ps.setB hb h1 j v,blk_setNe h.st (fun e => h2 e.symm) j v,blk_setNe h.box (fun e => h3 e.symm) j v,h.low,h.ne,h.bpg,h.bps⟩
theorem column_len {key:ByteArray} {ts r:List S32} {x:S128} {key':ByteArray} (h:Ps.column key ts=some ((x,key'),r)):r.length ≤ ts.length:=by
 unfold Ps.column at h
 cases hn:Ps.nm ts with
 | none => rw [hn] at h;cases h
 | some p =>
  obtain ⟨c,r1⟩:=p
  have h1:=Ps.nm_len hn
  rw [hn] at h
  simp only at h
  have hB:∀ kind r2,Ps.colB key c kind r2=some ((x,key'),r) → r.length ≤ r2.length:=by
   intro kind r2 h
   unfold Ps.colB at h
   cases hd:Ps.tk Ps.sDet r2 with
   | none => rw [hd] at h;cases h
   | some p =>
    obtain ⟨d,r3⟩:=p
    have h2:=(Ps.tk_len hd).1
    rw [hd] at h
    simp only at h
    cases hk:Ps.tk Ps.sKey r3 with
    | none => rw [hk] at h;cases h
    | some p =>
     obtain ⟨b,r4⟩:=p
     have h3:=(Ps.tk_len hk).1
     rw [hk] at h
     cases b with
     | false => cases h;omega
     | true =>
      simp only at h
      split at h
      ·cases h;omega
      ·cases h
  cases ht:Ps.tk Ps.sText r1 with
  | none => rw [ht] at h;cases h
  | some p =>
   obtain ⟨b,r2⟩:=p
   have h2:=(Ps.tk_len ht).1
   rw [ht] at h
   cases b with
   | true => have:=hB _ _ h;omega
   | false =>
    simp only at h
    cases hu:Ps.ms [Ps.sInt] r2 with
    | none => rw [hu] at h;cases h
    | some r3 =>
     rw [hu] at h
     have h3:=Ps.ms_len hu
     have:=hB _ _ h
     omega
set_option maxHeartbeats 1000000 in
set_option maxRecDepth 100000 in
theorem column_clo {w0 w:World} {g gs bp:Nat} {n key:ByteArray} {ts:List S32} (h:Icol w0 g gs bp n key ts w):Calls Tryz.prog 262 #[.pointer (some ⟨bp,0,none⟩),.pointer (some ⟨gs,0,none⟩)] w (OutG (fun q => q=g ∨ q=gs) (Icol w0 g gs bp n) (Vcol w.heap.size) w (Ps.column key ts)):=by
 have HI:=Aside0.mk h
 have hlt:=h.ps.lt
 have hlow:=h.ps.low
 have hgs:gs < w.heap.size:=blk_lt h.st
 have hbp:bp < w.heap.size:=blk_lt h.box
 have hb:=(blk_cell h.box 0:w.cell? ⟨bp,0,none⟩=some (.pointer (some ⟨g,0,none⟩)))
 clear h
 cases hx:Ps.column key ts with
 | none =>
  have HX:=Aside0.mk hx
  clear hx
  go_enter Tryz.func262,Tryz.ntmps262
  go_wp2_with (first | (go_at_call 263;refine (column_out (HI.out.alloc _)).mono ?_;intro e9 w2 ho;obtain ⟨hg,rfl⟩:=ho.none HX.out;have HG2:=Aside0.mk (((Gs.refl (fun q => q=g ∨ q=gs) w).alloc _).trans hg);clear hg ho))
  exact ⟨rfl,OutG.of_none rfl HG2.out⟩
 | some p =>
  obtain ⟨⟨x,key'⟩,r⟩:=p
  have HX:=Aside0.mk hx
  clear hx
  go_enter Tryz.func262,Tryz.ntmps262
  go_wp2_with (first | (go_at_call 263;refine (column_out (HI.out.alloc _)).mono ?_;intro e9 w2 ho;obtain ⟨hg,v,rfl,hv,hi⟩:=ho.some HX.out;obtain rfl:=hv;have BR2:=Aside0.mk (hg.blk (new_blk (W:=w) _ rfl) (by omega));have hs2:w.heap.size < w2.heap.size:=blk_lt BR2.out;have r2c0:w2.cell? ⟨w.heap.size,0,none⟩=some (.string ⟨#[]⟩):=(blk_cell BR2.out 0).trans rfl;have r2c1:w2.cell? ⟨w.heap.size,1,none⟩=some (.int .i64 0):=(blk_cell BR2.out 1).trans rfl;have r2c2:w2.cell? ⟨w.heap.size,2,none⟩=some (.int .i64 0):=(blk_cell BR2.out 2).trans rfl;have r2z0:=blk_frozen BR2.out 0;have r2z1:=blk_frozen BR2.out 1;have r2z2:=blk_frozen BR2.out 2;have HI2:=Aside0.mk hi;have HG2:=Aside0.mk (((Gs.refl (fun q => q=g ∨ q=gs) w).alloc _).trans hg);clear hg ho hi))
  refine bodyPost_ret (v:=.agg #[.string x.f0,.int .i64 x.f1,.int .i64 x.f2]) ?_ rfl ?_
  ·simp [results,Tryz.results262,go_sem,r2c0,r2z0,r2c1,r2z1,r2c2,r2z2,hs2]
  ·refine OutG.of_some rfl ?_ rfl ?_
   ·with_reducible (repeat (first | exact HG2.out | refine Gs.setB ?_ (Nat.le_refl _) _ _))
   ·with_reducible (repeat (first | exact HI2.out | refine Icol.setB ?_ (by omega) (by omega) (by omega) (by omega) _ _))
end Go.Proofs.YtcgdncpioafbdaaGreatDoor.Q
namespace Go.Proofs.YtcgdncpioafbdaaGreatDoor.Q
open Go Go.RowKit Go.Proofs.YtcgdncpioafbdaaGreatDoorW.PrintWords
def cells60 (x:S60) (A2:Option Addr) (c2:Nat) (A4:Option Addr) (c4:Nat) (A5:Option Addr) (c5:Nat) (A6:Option Addr) (c6:Nat) (A7:Option Addr) (c7:Nat):List Value:=[.int .i64 x.f0,.string x.f1,.slice A2 x.f2.length c2,.string x.f3,.slice A4 x.f4.length c4,.slice A5 x.f5.length c5,.slice A6 x.f6.length c6,.slice A7 x.f7.length c7,.string x.f8,.bool x.f9,.int .i64 x.f10]
structure StF (ok:Nat → Prop) (w:World) (x:S60) (A2:Option Addr) (c2:Nat) (A4:Option Addr) (c4:Nat) (A5:Option Addr) (c5:Nat) (A6:Option Addr) (c6:Nat) (A7:Option Addr) (c7:Nat):Prop where
 l2:x.f2.length ≤ c2
 f2:Kd.F k128 w ok A2 x.f2.length x.f2
 l4:x.f4.length ≤ c4
 f4:Kd.F (Kd.slice 43 k43) w ok A4 x.f4.length x.f4
 l5:x.f5.length ≤ c5
 f5:Kd.F k43 w ok A5 x.f5.length x.f5
 l6:x.f6.length ≤ c6
 f6:Kd.F k90 w ok A6 x.f6.length x.f6
 l7:x.f7.length ≤ c7
 f7:Kd.F k43 w ok A7 x.f7.length x.f7
structure SB (w0:World) (g gs:Nat) (x:S60) (ts:List S32) (w:World):Prop where
 ps:PS w0 g ts w
 st:∃ A2 c2 A4 c4 A5 c5 A6 c6 A7 c7,w.heap[gs]? = some (.cells (cells60 x A2 c2 A4 c4 A5 c5 A6 c6 A7 c7).toArray 60 (0,0))∧StF (fun q => gs < q) w x A2 c2 A4 c4 A5 c5 A6 c6 A7 c7
 low:g < gs
theorem SB.lt {w0 w:World} {g gs:Nat} {x:S60} {ts:List S32} (h:SB w0 g gs x ts w):gs < w.heap.size:=by
 obtain ⟨_,⟨_,_,_,_,_,_,_,_,_,_,hb,_⟩,_⟩:=h
 exact blk_lt hb
theorem SB.has {w0 w:World} {g gs:Nat} {x:S60} {ts:List S32} (h:SB w0 g gs x ts w) (i:Nat) (hi:i < 11):∃ v,w.cell? ⟨gs,i,none⟩=some v:=by
 obtain ⟨_,⟨_,_,_,_,_,_,_,_,_,_,hb,_⟩,_⟩:=h
 rw [blk_cell hb]
 exact ⟨_,Array.getElem?_eq_getElem (by simpa [cells60] using hi)⟩
theorem SB.frz {w0 w:World} {g gs:Nat} {x:S60} {ts:List S32} (h:SB w0 g gs x ts w) (i:Nat):w.frozen? ⟨gs,i,none⟩=false:=by
 obtain ⟨_,⟨_,_,_,_,_,_,_,_,_,_,hb,_⟩,_⟩:=h
 exact blk_frozen hb i
theorem SB.go {w0 w w':World} {g gs:Nat} {x:S60} {ts r:List S32} (h:SB w0 g gs x ts w) (hg:Gr g w w') (hp:PS w0 g r w'):SB w0 g gs x r w':=by
 obtain ⟨hps,⟨A2,c2,A4,c4,A5,c5,A6,c6,A7,c7,hb,hF⟩,hl⟩:=h
 exact ⟨hp,⟨A2,c2,A4,c4,A5,c5,A6,c6,A7,c7,hg.blk hb (by omega),hF.l2,hg.F hF.f2 (fun q hq => by have h1:gs < q:=hq;omega),hF.l4,hg.F hF.f4 (fun q hq => by have h1:gs < q:=hq;omega),hF.l5,hg.F hF.f5 (fun q hq => by have h1:gs < q:=hq;omega),hF.l6,hg.F hF.f6 (fun q hq => by have h1:gs < q:=hq;omega),hF.l7,hg.F hF.f7 (fun q hq => by have h1:gs < q:=hq;omega)⟩,hl⟩
theorem SB.below {w0 w w':World} {g gs:Nat} {x:S60} {ts:List S32} (h:SB w0 g gs x ts w) (hb:Below w.heap.size w w'):SB w0 g gs x ts w':=h.go (Gr.of_below hb) (h.ps.below hb)
theorem SB.alloc {w0 w:World} {g gs:Nat} {x:S60} {ts:List S32} (h:SB w0 g gs x ts w) (o:Obj):SB w0 g gs x ts (w.alloc o):=h.below (below_alloc (Below.refl _ _) o)
theorem SB.put0 {w0 w:World} {g gs:Nat} {x:S60} {ts:List S32} (h:SB w0 g gs x ts w) (n:Int):SB w0 g gs { x with f0:=n } ts (w.setCell ⟨gs,0,none⟩ (.int .i64 n)):=by
 obtain ⟨hps,⟨A2,c2,A4,c4,A5,c5,A6,c6,A7,c7,hb,hF⟩,hl⟩:=h
 exact ⟨hps.setB (Nat.le_trans hps.low (Nat.le_of_lt hl)) (by omega) _ _,⟨A2,c2,A4,c4,A5,c5,A6,c6,A7,c7,blk_put hb 0 _ rfl,hF.l2,Kd.F_far hF.f2 (fun q hq => by have h1:gs < q:=hq;simp only;omega) _,hF.l4,Kd.F_far hF.f4 (fun q hq => by have h1:gs < q:=hq;simp only;omega) _,hF.l5,Kd.F_far hF.f5 (fun q hq => by have h1:gs < q:=hq;simp only;omega) _,hF.l6,Kd.F_far hF.f6 (fun q hq => by have h1:gs < q:=hq;simp only;omega) _,hF.l7,Kd.F_far hF.f7 (fun q hq => by have h1:gs < q:=hq;simp only;omega) _⟩,hl⟩
theorem SB.put1 {w0 w:World} {g gs:Nat} {x:S60} {ts:List S32} (h:SB w0 g gs x ts w) (s:ByteArray):SB w0 g gs { x with f1:=s } ts (w.setCell ⟨gs,1,none⟩ (.string s)):=by
 obtain ⟨hps,⟨A2,c2,A4,c4,A5,c5,A6,c6,A7,c7,hb,hF⟩,hl⟩:=h
 exact ⟨hps.setB (Nat.le_trans hps.low (Nat.le_of_lt hl)) (by omega) _ _,⟨A2,c2,A4,c4,A5,c5,A6,c6,A7,c7,blk_put hb 1 _ rfl,hF.l2,Kd.F_far hF.f2 (fun q hq => by have h1:gs < q:=hq;simp only;omega) _,hF.l4,Kd.F_far hF.f4 (fun q hq => by have h1:gs < q:=hq;simp only;omega) _,hF.l5,Kd.F_far hF.f5 (fun q hq => by have h1:gs < q:=hq;simp only;omega) _,hF.l6,Kd.F_far hF.f6 (fun q hq => by have h1:gs < q:=hq;simp only;omega) _,hF.l7,Kd.F_far hF.f7 (fun q hq => by have h1:gs < q:=hq;simp only;omega) _⟩,hl⟩
theorem SB.put8 {w0 w:World} {g gs:Nat} {x:S60} {ts:List S32} (h:SB w0 g gs x ts w) (s:ByteArray):SB w0 g gs { x with f8:=s } ts (w.setCell ⟨gs,8,none⟩ (.string s)):=by
 obtain ⟨hps,⟨A2,c2,A4,c4,A5,c5,A6,c6,A7,c7,hb,hF⟩,hl⟩:=h
 exact ⟨hps.setB (Nat.le_trans hps.low (Nat.le_of_lt hl)) (by omega) _ _,⟨A2,c2,A4,c4,A5,c5,A6,c6,A7,c7,blk_put hb 8 _ rfl,hF.l2,Kd.F_far hF.f2 (fun q hq => by have h1:gs < q:=hq;simp only;omega) _,hF.l4,Kd.F_far hF.f4 (fun q hq => by have h1:gs < q:=hq;simp only;omega) _,hF.l5,Kd.F_far hF.f5 (fun q hq => by have h1:gs < q:=hq;simp only;omega) _,hF.l6,Kd.F_far hF.f6 (fun q hq => by have h1:gs < q:=hq;simp only;omega) _,hF.l7,Kd.F_far hF.f7 (fun q hq => by have h1:gs < q:=hq;simp only;omega) _⟩,hl⟩
theorem SB.put9 {w0 w:World} {g gs:Nat} {x:S60} {ts:List S32} (h:SB w0 g gs x ts w) (b:Bool):SB w0 g gs { x with f9:=b } ts (w.setCell ⟨gs,9,none⟩ (.bool b)):=by
 obtain ⟨hps,⟨A2,c2,A4,c4,A5,c5,A6,c6,A7,c7,hb,hF⟩,hl⟩:=h
 exact ⟨hps.setB (Nat.le_trans hps.low (Nat.le_of_lt hl)) (by omega) _ _,⟨A2,c2,A4,c4,A5,c5,A6,c6,A7,c7,blk_put hb 9 _ rfl,hF.l2,Kd.F_far hF.f2 (fun q hq => by have h1:gs < q:=hq;simp only;omega) _,hF.l4,Kd.F_far hF.f4 (fun q hq => by have h1:gs < q:=hq;simp only;omega) _,hF.l5,Kd.F_far hF.f5 (fun q hq => by have h1:gs < q:=hq;simp only;omega) _,hF.l6,Kd.F_far hF.f6 (fun q hq => by have h1:gs < q:=hq;simp only;omega) _,hF.l7,Kd.F_far hF.f7 (fun q hq => by have h1:gs < q:=hq;simp only;omega) _⟩,hl⟩
theorem SB.put10 {w0 w:World} {g gs:Nat} {x:S60} {ts:List S32} (h:SB w0 g gs x ts w) (n:Int):SB w0 g gs { x with f10:=n } ts (w.setCell ⟨gs,10,none⟩ (.int .i64 n)):=by
 obtain ⟨hps,⟨A2,c2,A4,c4,A5,c5,A6,c6,A7,c7,hb,hF⟩,hl⟩:=h
 exact ⟨hps.setB (Nat.le_trans hps.low (Nat.le_of_lt hl)) (by omega) _ _,⟨A2,c2,A4,c4,A5,c5,A6,c6,A7,c7,blk_put hb 10 _ rfl,hF.l2,Kd.F_far hF.f2 (fun q hq => by have h1:gs < q:=hq;simp only;omega) _,hF.l4,Kd.F_far hF.f4 (fun q hq => by have h1:gs < q:=hq;simp only;omega) _,hF.l5,Kd.F_far hF.f5 (fun q hq => by have h1:gs < q:=hq;simp only;omega) _,hF.l6,Kd.F_far hF.f6 (fun q hq => by have h1:gs < q:=hq;simp only;omega) _,hF.l7,Kd.F_far hF.f7 (fun q hq => by have h1:gs < q:=hq;simp only;omega) _⟩,hl⟩
theorem SB.put5 {w0 w:World} {g gs:Nat} {x:S60} {ts:List S32} (h:SB w0 g gs x ts w) {l:List S43} {A:Option Addr} {c:Nat} (hc:l.length ≤ c) (hF0:Kd.F k43 w (fun q => gs < q) A l.length l):SB w0 g gs { x with f5:=l } ts (w.setCell ⟨gs,5,none⟩ (.slice A l.length c)):=by
 obtain ⟨hps,⟨A2,c2,A4,c4,A5,c5,A6,c6,A7,c7,hb,hF⟩,hl⟩:=h
 exact ⟨hps.setB (Nat.le_trans hps.low (Nat.le_of_lt hl)) (by omega) _ _,⟨A2,c2,A4,c4,A,c,A6,c6,A7,c7,blk_put hb 5 _ rfl,hF.l2,Kd.F_far hF.f2 (fun q hq => by have h1:gs < q:=hq;simp only;omega) _,hF.l4,Kd.F_far hF.f4 (fun q hq => by have h1:gs < q:=hq;simp only;omega) _,hc,Kd.F_far hF0 (fun q hq => by have h1:gs < q:=hq;simp only;omega) _,hF.l6,Kd.F_far hF.f6 (fun q hq => by have h1:gs < q:=hq;simp only;omega) _,hF.l7,Kd.F_far hF.f7 (fun q hq => by have h1:gs < q:=hq;simp only;omega) _⟩,hl⟩
theorem SB.put7 {w0 w:World} {g gs:Nat} {x:S60} {ts:List S32} (h:SB w0 g gs x ts w) {l:List S43} {A:Option Addr} {c:Nat} (hc:l.length ≤ c) (hF0:Kd.F k43 w (fun q => gs < q) A l.length l):SB w0 g gs { x with f7:=l } ts (w.setCell ⟨gs,7,none⟩ (.slice A l.length c)):=by
 obtain ⟨hps,⟨A2,c2,A4,c4,A5,c5,A6,c6,A7,c7,hb,hF⟩,hl⟩:=h
 exact ⟨hps.setB (Nat.le_trans hps.low (Nat.le_of_lt hl)) (by omega) _ _,⟨A2,c2,A4,c4,A5,c5,A6,c6,A,c,blk_put hb 7 _ rfl,hF.l2,Kd.F_far hF.f2 (fun q hq => by have h1:gs < q:=hq;simp only;omega) _,hF.l4,Kd.F_far hF.f4 (fun q hq => by have h1:gs < q:=hq;simp only;omega) _,hF.l5,Kd.F_far hF.f5 (fun q hq => by have h1:gs < q:=hq;simp only;omega) _,hF.l6,Kd.F_far hF.f6 (fun q hq => by have h1:gs < q:=hq;simp only;omega) _,hc,Kd.F_far hF0 (fun q hq => by have h1:gs < q:=hq;simp only;omega) _⟩,hl⟩
theorem whr_len {k:Nat} {ts r:List S32} {l:List S43} (h:Ps.whr k ts=some (l,r)):r.length ≤ ts.length:=by
 unfold Ps.whr at h
 cases ht:Ps.tk Ps.sWhere ts with
 | none => rw [ht] at h;cases h
 | some p =>
  obtain ⟨b,r1⟩:=p
  have h1:=(Ps.tk_len ht).1
  rw [ht] at h
  cases b with
  | false => cases h;exact h1
  | true =>
   simp only at h
   cases hx:Ps.expr k 0 r1 with
   | none => rw [hx] at h;cases h
   | some p =>
    obtain ⟨y,r3⟩:=p
    rw [hx] at h
    cases h
    have h3:=Ps.expr_len hx
    omega
set_option maxHeartbeats 4000000 in
set_option maxRecDepth 100000 in
theorem choose_out {w0 w:World} {g gs:Nat} {s:S60} {ts:List S32} (h:SB w0 g gs s ts w) {k:Nat} (hk:2 * ts.length + 1 ≤ k) (hn:ts.length ≤ 4001):Calls Tryz.prog 267 #[.pointer (some ⟨g,0,none⟩),.pointer (some ⟨gs,0,none⟩)] w (OutG (fun q => q=g ∨ q=gs) (SB w0 g gs) (fun _ (_:Unit) v => v = .tuple #[]) w ((Ps.choose k s ts).map fun p => (((),p.1),p.2))):=by
 obtain ⟨SS,hSS⟩:∃ S:Nat → Prop,(fun q => q=g ∨ q=gs)=S:=⟨_,rfl⟩
 have SB0:=Aside0.mk h
 have HG0:=Aside0.mk (Gs.refl (fun q => q=g ∨ q=gs) w)
 have hgt0:=h.lt
 have hlt:=h.ps.lt
 have hlow:=h.ps.low
 have hgg:=h.low
 clear h
 subst hSS
 cases ht:Ps.tk Ps.sStar ts with
 | none =>
  have HT:=Aside0.mk ht
  have HM:=Aside0.mk (show Ps.choose k s ts=none by simp only [Ps.choose,ht])
  clear ht
  go_enter Tryz.func267,Tryz.ntmps267
  go_wp2_with (first | (go_at_call 271;refine (take_out SB0.out.ps Ps.sStar).mono ?_;intro e7 w1 ho;obtain ⟨hg,rfl⟩:=ho.none HT.out;have HGN:=Aside0.mk (HG0.out.trans (Gs.of_gr hg (.inl rfl)));clear hg ho))
  exact ⟨rfl,OutG.of_none (by rw [HM.out];rfl) HGN.out⟩
 | some p =>
  obtain ⟨b,r⟩:=p
  have HT:=Aside0.mk ht
  clear ht
  go_enter Tryz.func267,Tryz.ntmps267
  go_upto_if 7 with (first | (go_at_call 271;refine (take_out SB0.out.ps Ps.sStar).mono ?_;intro e7 w1 ho;obtain ⟨hg,v,rfl,rfl,hp⟩:=ho.some HT.out;have hsz1:=hg.size;have SB1:=Aside0.mk (SB0.out.go hg hp);have hgt1:gs < w1.heap.size:=SB1.out.lt;have HG1:=Aside0.mk (HG0.out.trans (Gs.of_gr hg (.inl rfl)));clear hg ho hp))
  go_cut [] (fun wc => ∃ (x:S60) (tq:List S32),Aside0 (Ps.choose k s ts=Ps.chooseF k x tq)∧Aside0 (tq.length ≤ ts.length)∧Aside0 (SB w0 g gs x tq wc)∧Aside0 (Gs (fun q => q=g ∨ q=gs) w wc))
  case first =>
   cases b with
   | true =>
    have HM:=Aside0.mk (show Ps.choose k s ts=Ps.chooseF k s r by simp only [Ps.choose,HT.out])
    go_wp2
    go_meet
    case rel => exact ⟨s,r,HM,⟨(Ps.tk_len HT.out).1⟩,SB1,HG1⟩
   | false =>
    cases hx:Ps.lists k r with
    | none =>
     have HX:=Aside0.mk hx
     have HM:=Aside0.mk (show Ps.choose k s ts=none by simp only [Ps.choose,HT.out,hx])
     clear hx
     go_wp2_with (first | (go_at_call 325;refine (lists_out SB1.out.ps (k:=k) (by have:=(Ps.tk_len HT.out).1;omega) (by have:=(Ps.tk_len HT.out).1;omega)).mono ?_;intro e8 w2 ho;obtain ⟨hg,rfl⟩:=ho.none HX.out;have HGN:=Aside0.mk (HG1.out.trans (Gs.of_gr hg (.inl rfl)));clear hg ho))
     exact ⟨rfl,OutG.of_none (by rw [HM.out];rfl) HGN.out⟩
    | some p =>
     obtain ⟨l,r1⟩:=p
     have HX:=Aside0.mk hx
     have HM:=Aside0.mk (show Ps.choose k s ts=Ps.chooseF k { s with f5:=l } r1 by simp only [Ps.choose,HT.out,hx])
     clear hx
     go_wp2_with (first | (go_at_call 325;refine (lists_out SB1.out.ps (k:=k) (by have:=(Ps.tk_len HT.out).1;omega) (by have:=(Ps.tk_len HT.out).1;omega)).mono ?_;intro e8 w2 ho;obtain ⟨hg,v,rfl,hv,hp⟩:=ho.some HX.out;obtain ⟨Ax,nx,rfl,hnx,hfx⟩:=hv;have hsz2:=hg.size;have SB2:=Aside0.mk (SB1.out.go hg hp);have hgt2:gs < w2.heap.size:=SB2.out.lt;have HG2:=Aside0.mk (HG1.out.trans (Gs.of_gr hg (.inl rfl)));obtain ⟨y2_5,hy2_5⟩:=SB2.out.has 5 (by omega);have hz2_5:=SB2.out.frz 5;have HNX:=Aside0.mk hnx;have HFX:=Aside0.mk (Kd.F_mono hfx (ok':=fun q => gs < q) (fun q hq => by omega));clear hg ho hp hnx hfx))
     go_meet
     case rel => exact ⟨_,r1,HM,⟨by have:=(Ps.tk_len HT.out).1;have:=lists_len HX.out;omega⟩,⟨SB2.out.put5 HNX.out HFX.out⟩,⟨HG2.out.setS (.inr rfl) _ _⟩⟩
  case rest =>
   clear HT SB1 HG1 SB0 HG0
   obtain ⟨x,tq,HM,HL,SB3,HG3⟩:=hcut
   have hm:=HM.out
   clear HM
   unfold Ps.chooseF at hm
   have hgt3:=SB3.out.lt
   cases hu:Ps.ms [Ps.sFrom] tq with
   | none =>
    rw [hu] at hm
    have HU:=Aside0.mk hu
    clear hu
    have HM:=Aside0.mk hm
    clear hm
    go_wp2_with (first | (go_at_call 259;refine (must1 SB3.out.ps (by simp) Ps.sFrom 1).mono ?_;intro e7 w4 ho;obtain ⟨hg,rfl⟩:=ho.none (msU_none HU.out);have HGN:=Aside0.mk (HG3.out.trans (Gs.of_gr hg (.inl rfl)));clear hg ho))
    exact ⟨rfl,OutG.of_none (by rw [HM.out];rfl) HGN.out⟩
   | some r1 =>
    rw [hu] at hm
    simp only at hm
    have HU:=Aside0.mk hu
    clear hu
    cases hnm:Ps.nm r1 with
    | none =>
     rw [hnm] at hm
     have HN:=Aside0.mk hnm
     clear hnm
     have HM:=Aside0.mk hm
     clear hm
     go_wp2_with (first | (go_at_call 259;refine (must1 SB3.out.ps (by simp) Ps.sFrom 1).mono ?_;intro e7 w4 ho;obtain ⟨hg,v,rfl,rfl,hp⟩:=ho.some (msU_some HU.out);have hsz4:=hg.size;have SB4:=Aside0.mk (SB3.out.go hg hp);have hgt4:gs < w4.heap.size:=SB4.out.lt;have HG4:=Aside0.mk (HG3.out.trans (Gs.of_gr hg (.inl rfl)));clear hg ho hp) | (go_at_call 260;refine (name_out SB4.out.ps).mono ?_;intro e9 w5 ho;obtain ⟨hg,rfl⟩:=ho.none HN.out;have HGN:=Aside0.mk (HG4.out.trans (Gs.of_gr hg (.inl rfl)));clear hg ho))
     exact ⟨rfl,OutG.of_none (by rw [HM.out];rfl) HGN.out⟩
    | some p =>
     obtain ⟨t,r2⟩:=p
     rw [hnm] at hm
     simp only at hm
     have HN:=Aside0.mk hnm
     clear hnm
     cases hw:Ps.whr k r2 with
     | none =>
      rw [hw] at hm
      have HW:=Aside0.mk hw
      clear hw
      have HM:=Aside0.mk hm
      clear hm
      go_wp2_with (first | (go_at_call 259;refine (must1 SB3.out.ps (by simp) Ps.sFrom 1).mono ?_;intro e7 w4 ho;obtain ⟨hg,v,rfl,rfl,hp⟩:=ho.some (msU_some HU.out);have hsz4:=hg.size;have SB4:=Aside0.mk (SB3.out.go hg hp);have hgt4:gs < w4.heap.size:=SB4.out.lt;have HG4:=Aside0.mk (HG3.out.trans (Gs.of_gr hg (.inl rfl)));clear hg ho hp) | (go_at_call 260;refine (name_out SB4.out.ps).mono ?_;intro e9 w5 ho;obtain ⟨hg,v,rfl,rfl,hp⟩:=ho.some HN.out;have hsz5:=hg.size;have SB5:=Aside0.mk (SB4.out.go hg hp);have hgt5:gs < w5.heap.size:=SB5.out.lt;have HG5:=Aside0.mk (HG4.out.trans (Gs.of_gr hg (.inl rfl)));clear hg ho hp) | (go_at_call 270;refine (where_out SB5.out.ps (k:=k) (by have:=Ps.ms_len HU.out;have:=Ps.nm_len HN.out;have:=HL.out;omega)).mono ?_;intro e8 w6 ho;obtain ⟨hg,rfl⟩:=ho.none HW.out;have HGN:=Aside0.mk (HG5.out.trans (Gs.of_gr hg (.inl rfl)));clear hg ho))
      exact ⟨rfl,OutG.of_none (by rw [HM.out];rfl) HGN.out⟩
     | some p =>
      obtain ⟨wh,r3⟩:=p
      rw [hw] at hm
      simp only at hm
      have HW:=Aside0.mk hw
      have HLW:=Aside0.mk (whr_len hw)
      clear hw
      have HM:=Aside0.mk hm
      clear hm
      go_upto_region 4 with (first | (go_at_call 259;refine (must1 SB3.out.ps (by simp) Ps.sFrom 1).mono ?_;intro e7 w4 ho;obtain ⟨hg,v,rfl,rfl,hp⟩:=ho.some (msU_some HU.out);have hsz4:=hg.size;have SB4:=Aside0.mk (SB3.out.go hg hp);have hgt4:gs < w4.heap.size:=SB4.out.lt;have HG4:=Aside0.mk (HG3.out.trans (Gs.of_gr hg (.inl rfl)));clear hg ho hp) | (go_at_call 260;refine (name_out SB4.out.ps).mono ?_;intro e9 w5 ho;obtain ⟨hg,v,rfl,rfl,hp⟩:=ho.some HN.out;have hsz5:=hg.size;have SB5:=Aside0.mk (SB4.out.go hg hp);have hgt5:gs < w5.heap.size:=SB5.out.lt;have HG5:=Aside0.mk (HG4.out.trans (Gs.of_gr hg (.inl rfl)));clear hg ho hp) | (go_at_call 270;refine (where_out SB5.out.ps (k:=k) (by have:=Ps.ms_len HU.out;have:=Ps.nm_len HN.out;have:=HL.out;omega)).mono ?_;intro e8 w6 ho;obtain ⟨hg,v,rfl,hv,hp⟩:=ho.some HW.out;obtain ⟨Ax,nx,rfl,hnx,hfx⟩:=hv;have hsz6:=hg.size;have SB6:=Aside0.mk (SB5.out.go hg hp);have hgt6:gs < w6.heap.size:=SB6.out.lt;have HG6:=Aside0.mk (HG5.out.trans (Gs.of_gr hg (.inl rfl)));obtain ⟨y6_1,hy6_1⟩:=SB6.out.has 1 (by omega);have hz6_1:=SB6.out.frz 1;obtain ⟨y6_7,hy6_7⟩:=SB6.out.has 7 (by omega);have hz6_7:=SB6.out.frz 7;have HNX:=Aside0.mk hnx;have HFX:=Aside0.mk (Kd.F_mono hfx (ok':=fun q => gs < q) (fun q hq => by omega));clear hg ho hp hnx hfx))
      have SB7:=Aside0.mk ((SB6.out.put1 t).put7 HNX.out (Kd.F_far HFX.out (fun q hq => by have h1:gs < q:=hq;simp only;omega) _))
      have HG7:=Aside0.mk ((HG6.out.setS (b:=gs) (.inr rfl) 1 (.string t)).setS (b:=gs) (.inr rfl) 7 (.slice Ax wh.length nx))
      obtain ⟨x7,hx7⟩:∃ y:S60,y={ x with f1:=t,f7:=wh }:=⟨_,rfl⟩
      have hm:=HM.out
      clear HM
      rw [← hx7] at hm
      have SB7b:Aside0 (SB w0 g gs x7 r3 _):=hx7 ▸ SB7
      clear SB7
      have SB7:=SB7b
      clear SB7b
      unfold Ps.chooseO at hm
      cases hto:Ps.tk Ps.sOrder r3 with
      | none =>
       rw [hto] at hm
       have HO:=Aside0.mk hto
       clear hto
       have HM:=Aside0.mk hm
       clear hm
       go_wp2_with (first | (go_at_call 271;refine (take_out SB7.out.ps Ps.sOrder).mono ?_;intro e7 w8 ho;obtain ⟨hg,rfl⟩:=ho.none HO.out;have HGN:=Aside0.mk (HG7.out.trans (Gs.of_gr hg (.inl rfl)));clear hg ho))
       exact ⟨rfl,OutG.of_none (by rw [HM.out];rfl) HGN.out⟩
      | some p =>
       obtain ⟨b,r4⟩:=p
       rw [hto] at hm
       have HO:=Aside0.mk hto
       clear hto
       have HM:=Aside0.mk hm
       clear hm
       go_upto_if 29 with (first | (go_at_call 271;refine (take_out SB7.out.ps Ps.sOrder).mono ?_;intro e7 w8 ho;obtain ⟨hg,v,rfl,rfl,hp⟩:=ho.some HO.out;have hsz8:=hg.size;have SB8:=Aside0.mk (SB7.out.go hg hp);have hgt8:gs < w8.heap.size:=SB8.out.lt;have HG8:=Aside0.mk (HG7.out.trans (Gs.of_gr hg (.inl rfl)));clear hg ho hp))
       have HLO:=Aside0.mk (show r4.length ≤ ts.length by have:=(Ps.tk_len HO.out).1;have:=HLW.out;have:=Ps.nm_len HN.out;have:=Ps.ms_len HU.out;have:=HL.out;omega)
       have hgt8b:gs < w8.heap.size:=SB8.out.lt
       go_cut [] (fun wc => ∃ (x:S60) (tq:List S32),Aside0 (Ps.choose k s ts=Ps.chooseL x tq)∧Aside0 (tq.length ≤ ts.length)∧Aside0 (SB w0 g gs x tq wc)∧Aside0 (Gs (fun q => q=g ∨ q=gs) w wc))
       case first =>
        have hm:=HM.out
        clear HM
        cases b with
        | false =>
         have HM:=Aside0.mk hm
         go_wp2
         go_meet
         case rel => exact ⟨x7,r4,HM,HLO,SB8,HG8⟩
        | true =>
         clear HU HN
         simp only at hm
         cases hu:Ps.ms [Ps.sBy] r4 with
         | none =>
          rw [hu] at hm
          have HU:=Aside0.mk hu
          clear hu
          have HM:=Aside0.mk hm
          clear hm
          go_wp2_with (first | (go_at_call 259;refine (must1 SB8.out.ps (by simp) Ps.sBy 1).mono ?_;intro e7 w9 ho;obtain ⟨hg,rfl⟩:=ho.none (msU_none HU.out);have HGN:=Aside0.mk (HG8.out.trans (Gs.of_gr hg (.inl rfl)));clear hg ho))
          exact ⟨rfl,OutG.of_none (by rw [HM.out];rfl) HGN.out⟩
         | some r5 =>
          rw [hu] at hm
          simp only at hm
          have HU:=Aside0.mk hu
          clear hu
          cases hnm:Ps.nm r5 with
          | none =>
           rw [hnm] at hm
           have HN:=Aside0.mk hnm
           clear hnm
           have HM:=Aside0.mk hm
           clear hm
           go_wp2_with (first | (go_at_call 259;refine (must1 SB8.out.ps (by simp) Ps.sBy 1).mono ?_;intro e7 w9 ho;obtain ⟨hg,v,rfl,rfl,hp⟩:=ho.some (msU_some HU.out);have hsz9:=hg.size;have SB9:=Aside0.mk (SB8.out.go hg hp);have hgt9:gs < w9.heap.size:=SB9.out.lt;have HG9:=Aside0.mk (HG8.out.trans (Gs.of_gr hg (.inl rfl)));clear hg ho hp) | (go_at_call 260;refine (name_out SB9.out.ps).mono ?_;intro e9 w10 ho;obtain ⟨hg,rfl⟩:=ho.none HN.out;have HGN:=Aside0.mk (HG9.out.trans (Gs.of_gr hg (.inl rfl)));clear hg ho))
           exact ⟨rfl,OutG.of_none (by rw [HM.out];rfl) HGN.out⟩
          | some p =>
           obtain ⟨o,r6⟩:=p
           rw [hnm] at hm
           simp only at hm
           have HN:=Aside0.mk hnm
           clear hnm
           cases hd:Ps.tk Ps.sDesc r6 with
           | none =>
            rw [hd] at hm
            have HD:=Aside0.mk hd
            clear hd
            have HM:=Aside0.mk hm
            clear hm
            go_wp2_with (first | (go_at_call 259;refine (must1 SB8.out.ps (by simp) Ps.sBy 1).mono ?_;intro e7 w9 ho;obtain ⟨hg,v,rfl,rfl,hp⟩:=ho.some (msU_some HU.out);have hsz9:=hg.size;have SB9:=Aside0.mk (SB8.out.go hg hp);have hgt9:gs < w9.heap.size:=SB9.out.lt;have HG9:=Aside0.mk (HG8.out.trans (Gs.of_gr hg (.inl rfl)));clear hg ho hp) | (go_at_call 260;refine (name_out SB9.out.ps).mono ?_;intro e9 w10 ho;obtain ⟨hg,v,rfl,rfl,hp⟩:=ho.some HN.out;have hsz10:=hg.size;have SB10:=Aside0.mk (SB9.out.go hg hp);have hgt10:gs < w10.heap.size:=SB10.out.lt;have HG10:=Aside0.mk (HG9.out.trans (Gs.of_gr hg (.inl rfl)));obtain ⟨y10_8,hy10_8⟩:=SB10.out.has 8 (by omega);have hz10_8:=SB10.out.frz 8;clear hg ho hp) | (go_at_call 271;refine (take_out (SB10.out.put8 o).ps Ps.sDesc).mono ?_;intro e7 w11 ho;obtain ⟨hg,rfl⟩:=ho.none HD.out;have HGN:=Aside0.mk ((HG10.out.setS (b:=gs) (.inr rfl) 8 (.string o)).trans (Gs.of_gr hg (.inl rfl)));clear hg ho))
            exact ⟨rfl,OutG.of_none (by rw [HM.out];rfl) HGN.out⟩
           | some p =>
            obtain ⟨d,r7⟩:=p
            rw [hd] at hm
            simp only at hm
            have HD:=Aside0.mk hd
            clear hd
            have HM:=Aside0.mk hm
            clear hm
            go_wp2_with (first | (go_at_call 259;refine (must1 SB8.out.ps (by simp) Ps.sBy 1).mono ?_;intro e7 w9 ho;obtain ⟨hg,v,rfl,rfl,hp⟩:=ho.some (msU_some HU.out);have hsz9:=hg.size;have SB9:=Aside0.mk (SB8.out.go hg hp);have hgt9:gs < w9.heap.size:=SB9.out.lt;have HG9:=Aside0.mk (HG8.out.trans (Gs.of_gr hg (.inl rfl)));clear hg ho hp) | (go_at_call 260;refine (name_out SB9.out.ps).mono ?_;intro e9 w10 ho;obtain ⟨hg,v,rfl,rfl,hp⟩:=ho.some HN.out;have hsz10:=hg.size;have SB10:=Aside0.mk (SB9.out.go hg hp);have hgt10:gs < w10.heap.size:=SB10.out.lt;have HG10:=Aside0.mk (HG9.out.trans (Gs.of_gr hg (.inl rfl)));obtain ⟨y10_8,hy10_8⟩:=SB10.out.has 8 (by omega);have hz10_8:=SB10.out.frz 8;clear hg ho hp) | (go_at_call 271;refine (take_out (SB10.out.put8 o).ps Ps.sDesc).mono ?_;intro e7 w11 ho;obtain ⟨hg,v,rfl,rfl,hp⟩:=ho.some HD.out;have hsz11:=hg.size;have SB11:=Aside0.mk ((SB10.out.put8 o).go hg hp);have hgt11:gs < w11.heap.size:=SB11.out.lt;have HG11:=Aside0.mk ((HG10.out.setS (b:=gs) (.inr rfl) 8 (.string o)).trans (Gs.of_gr hg (.inl rfl)));obtain ⟨y11_9,hy11_9⟩:=SB11.out.has 9 (by omega);have hz11_9:=SB11.out.frz 9;clear hg ho hp))
            go_meet
            case rel => exact ⟨_,r7,HM,⟨by have:=(Ps.tk_len HD.out).1;have:=Ps.nm_len HN.out;have:=Ps.ms_len HU.out;have:=HLO.out;omega⟩,⟨SB11.out.put9 d⟩,⟨HG11.out.setS (b:=gs) (.inr rfl) _ _⟩⟩
       case rest =>
        clear HM HLO SB8 HG8 SB7 HG7 SB6 HG6 SB5 HG5 SB4 HG4 SB3 HG3 HNX HFX HO HL HLW HU HN HW
        clear hx7
        obtain ⟨y,tq2,HM,HL,SB12,HG12⟩:=hcut
        have hgt12:=SB12.out.lt
        have hm:=HM.out
        clear HM
        unfold Ps.chooseL at hm
        cases htl:Ps.tk Ps.sLimit tq2 with
        | none =>
         rw [htl] at hm
         have HB:=Aside0.mk htl
         clear htl
         have HM:=Aside0.mk hm
         clear hm
         go_wp2_with (first | (go_at_call 271;refine (take_out SB12.out.ps Ps.sLimit).mono ?_;intro e7 w13 ho;obtain ⟨hg,rfl⟩:=ho.none HB.out;have HGN:=Aside0.mk (HG12.out.trans (Gs.of_gr hg (.inl rfl)));clear hg ho))
         exact ⟨rfl,OutG.of_none (by rw [HM.out];rfl) HGN.out⟩
        | some p =>
         obtain ⟨b2,q1⟩:=p
         rw [htl] at hm
         have HB:=Aside0.mk htl
         clear htl
         cases b2 with
         | false =>
          have HM:=Aside0.mk hm
          clear hm
          go_wp2_with (first | (go_at_call 271;refine (take_out SB12.out.ps Ps.sLimit).mono ?_;intro e7 w13 ho;obtain ⟨hg,v,rfl,rfl,hp⟩:=ho.some HB.out;have hsz13:=hg.size;have SB13:=Aside0.mk (SB12.out.go hg hp);have hgt13:gs < w13.heap.size:=SB13.out.lt;have HG13:=Aside0.mk (HG12.out.trans (Gs.of_gr hg (.inl rfl)));clear hg ho hp))
          refine bodyPost_end (v:=.tuple #[]) ?_ rfl (OutG.of_some (by rw [HM.out];rfl) HG13.out rfl SB13.out)
          ·simp [results,Tryz.results267,go_sem]
         | true =>
          simp only at hm
          cases hn1:Ps.nx q1 with
          | none =>
           rw [hn1] at hm
           have HN:=Aside0.mk hn1
           clear hn1
           have HM:=Aside0.mk hm
           clear hm
           go_wp2_with (first | (go_at_call 271;refine (take_out SB12.out.ps Ps.sLimit).mono ?_;intro e7 w13 ho;obtain ⟨hg,v,rfl,rfl,hp⟩:=ho.some HB.out;have hsz13:=hg.size;have SB13:=Aside0.mk (SB12.out.go hg hp);have hgt13:gs < w13.heap.size:=SB13.out.lt;have HG13:=Aside0.mk (HG12.out.trans (Gs.of_gr hg (.inl rfl)));clear hg ho hp) | (go_at_call 258;refine (next_out SB13.out.ps).mono ?_;intro e9 w14 ho;obtain ⟨hg,rfl⟩:=ho.none HN.out;have HGN:=Aside0.mk (HG13.out.trans (Gs.of_gr hg (.inl rfl)));clear hg ho))
           exact ⟨rfl,OutG.of_none (by rw [HM.out];rfl) HGN.out⟩
          | some p =>
           obtain ⟨tt,q2⟩:=p
           rw [hn1] at hm
           simp only at hm
           have HN:=Aside0.mk hn1
           clear hn1
           by_cases c2:tt.f0=2
           ·rw [if_pos c2] at hm
            have b2c:(tt.f0 != 2)=false:=bne_eq_false_iff_eq.mpr c2
            clear c2
            have HM:=Aside0.mk hm
            clear hm
            go_wp2_with (first | (go_at_call 271;refine (take_out SB12.out.ps Ps.sLimit).mono ?_;intro e7 w13 ho;obtain ⟨hg,v,rfl,rfl,hp⟩:=ho.some HB.out;have hsz13:=hg.size;have SB13:=Aside0.mk (SB12.out.go hg hp);have hgt13:gs < w13.heap.size:=SB13.out.lt;have HG13:=Aside0.mk (HG12.out.trans (Gs.of_gr hg (.inl rfl)));clear hg ho hp) | (go_at_call 258;refine (next_out SB13.out.ps).mono ?_;intro e9 w14 ho;obtain ⟨hg,v,rfl,rfl,hp⟩:=ho.some HN.out;have hsz14:=hg.size;have SB14:=Aside0.mk (SB13.out.go hg hp);have hgt14:gs < w14.heap.size:=SB14.out.lt;have HG14:=Aside0.mk (HG13.out.trans (Gs.of_gr hg (.inl rfl)));obtain ⟨y14_10,hy14_10⟩:=SB14.out.has 10 (by omega);have hz14_10:=SB14.out.frz 10;clear hg ho hp) | (go_at_call 264;refine (fail_calls g _).mono ?_;rintro e8 w8 ⟨rfl,rfl⟩))
            refine bodyPost_end (v:=.tuple #[]) ?_ rfl (OutG.of_some (by rw [HM.out];rfl) ((HG14.out.setS (b:=gs) (.inr rfl) _ _).alloc _) rfl ((SB14.out.put10 tt.f2).alloc _))
            ·simp [results,Tryz.results267,go_sem]
           ·rw [if_neg c2] at hm
            have b2c:(tt.f0 != 2)=true:=bne_iff_ne.mpr c2
            clear c2
            have HM:=Aside0.mk hm
            clear hm
            go_wp2_with (first | (go_at_call 271;refine (take_out SB12.out.ps Ps.sLimit).mono ?_;intro e7 w13 ho;obtain ⟨hg,v,rfl,rfl,hp⟩:=ho.some HB.out;have hsz13:=hg.size;have SB13:=Aside0.mk (SB12.out.go hg hp);have hgt13:gs < w13.heap.size:=SB13.out.lt;have HG13:=Aside0.mk (HG12.out.trans (Gs.of_gr hg (.inl rfl)));clear hg ho hp) | (go_at_call 258;refine (next_out SB13.out.ps).mono ?_;intro e9 w14 ho;obtain ⟨hg,v,rfl,rfl,hp⟩:=ho.some HN.out;have hsz14:=hg.size;have SB14:=Aside0.mk (SB13.out.go hg hp);have hgt14:gs < w14.heap.size:=SB14.out.lt;have HG14:=Aside0.mk (HG13.out.trans (Gs.of_gr hg (.inl rfl)));obtain ⟨y14_10,hy14_10⟩:=SB14.out.has 10 (by omega);have hz14_10:=SB14.out.frz 10;clear hg ho hp) | (go_at_call 264;refine (fail_calls g _).mono ?_;rintro e8 w8 ⟨rfl,rfl⟩))
            exact ⟨rfl,OutG.of_none (by rw [HM.out];rfl) (HG14.out.alloc _)⟩
end Go.Proofs.YtcgdncpioafbdaaGreatDoor.Q
namespace Go.Proofs.YtcgdncpioafbdaaGreatDoor.Q
open Go Go.RowKit Go.Proofs.YtcgdncpioafbdaaGreatDoorW.PrintWords
theorem rows_out {w0 w:World} {g:Nat} {ts:List S32} (h:PS w0 g ts w) {k:Nat} (hk:2 * ts.length + 1 ≤ k) (hn:ts.length ≤ 4001):Calls Tryz.prog 265 #[.pointer (some ⟨g,0,none⟩),.func (.func 266) #[.pointer (some ⟨g,0,none⟩)] #[]] w (Out w0 g (Vrow (Kd.slice 43 k43) w.heap.size) w ((Ps.list (Ps.rowU k) k () ts).map fun p => (p.1.1,p.2))):=by
 refine (R_list (along_ps (w0:=w0) h.lt (Nat.le_of_lt (Nat.lt_of_le_of_lt h.low h.lt))) (Ps.rowU k) ts.length k hn ?_ ?_ () ts h (Nat.le_refl _) (by omega)).mono ?_
 ·intro st tq w' hI hl
  refine (row_out hI (k:=k) (by omega) (by omega)).mono fun e w1 ho => out_g ho ?_
  unfold Ps.rowU
  cases Ps.row k tq with
  | none => rfl
  | some p => rfl
 ·intro st tq x st' r hx
  unfold Ps.rowU at hx
  cases he:Ps.row k tq with
  | none => rw [he] at hx;cases hx
  | some p => rw [he] at hx;cases hx;exact row_len he
 ·intro e w1 ho
  exact g_out ho rfl
theorem sets_out {w0 w:World} {g:Nat} {ts:List S32} (h:PS w0 g ts w) {k:Nat} (hk:2 * ts.length + 1 ≤ k) (hn:ts.length ≤ 4001):Calls Tryz.prog 268 #[.pointer (some ⟨g,0,none⟩),.func (.func 269) #[.pointer (some ⟨g,0,none⟩)] #[]] w (Out w0 g (Vrow k90 w.heap.size) w ((Ps.list (Ps.setU k) k () ts).map fun p => (p.1.1,p.2))):=by
 refine (S_list (along_ps (w0:=w0) h.lt (Nat.le_of_lt (Nat.lt_of_le_of_lt h.low h.lt))) (Ps.setU k) ts.length k hn ?_ ?_ () ts h (Nat.le_refl _) (by omega)).mono ?_
 ·intro st tq w' hI hl
  refine (set_out hI (k:=k) (by omega)).mono fun e w1 ho => out_g ho ?_
  unfold Ps.setU
  cases Ps.set k tq with
  | none => rfl
  | some p => rfl
 ·intro st tq x st' r hx
  unfold Ps.setU at hx
  cases he:Ps.set k tq with
  | none => rw [he] at hx;cases hx
  | some p => rw [he] at hx;cases hx;exact set_len he
 ·intro e w1 ho
  exact g_out ho rfl
theorem setsU_len {k:Nat} {ts r:List S32} {l:List S90} {u:Unit} (h:Ps.list (Ps.setU k) k () ts=some ((l,u),r)):r.length ≤ ts.length:=by
 refine list_len ?_ h
 intro st tq x st' r hx
 unfold Ps.setU at hx
 cases he:Ps.set k tq with
 | none => rw [he] at hx;cases hx
 | some p => rw [he] at hx;cases hx;exact set_len he
theorem listU_some {α:Type} {m:Option ((α × Unit) × List S32)} {l:α} {u:Unit} {r:List S32} (h:m=some ((l,u),r)):(m.map fun p => (p.1.1,p.2))=some (l,r):=by subst h;rfl
theorem listU_none {α:Type} {m:Option ((α × Unit) × List S32)} (h:m=none):(m.map fun p => (p.1.1,p.2))=none:=by subst h;rfl
theorem along_col {w0:World} {g gs bp B:Nat} {n:ByteArray} (hg:g < B) (hs:gs < B) (hb:bp < B) (hB:w0.heap.size ≤ B):Along (fun q => q=g ∨ q=gs) (Icol w0 g gs bp n) w0 g B:=by
 refine ⟨?_,.inl rfl,hB,fun _ _ _ h => h.ps,?_,?_⟩
 ·rintro q (rfl | rfl)
  ·exact hg
  ·exact hs
 ·intro st ts r w w' h hgr hp
  exact ⟨hp,hgr.blk h.st h.ne,hgr.blk h.box h.bpg,h.low,h.ne,h.bpg,h.bps⟩
 ·intro st ts w w' h hb2
  exact ⟨h.ps.belowB hb2 hB hg,(hb2.block _ hs).trans h.st,(hb2.block _ hb).trans h.box,h.low,h.ne,h.bpg,h.bps⟩
theorem cols_out {w0 w:World} {g gs bp:Nat} {n key:ByteArray} {ts:List S32} (h:Icol w0 g gs bp n key ts w) {k:Nat} (hk:ts.length < k) (hn:ts.length ≤ 4001):Calls Tryz.prog 261 #[.pointer (some ⟨g,0,none⟩),.func (.func 262) #[] #[.pointer (some ⟨bp,0,none⟩),.pointer (some ⟨gs,0,none⟩)]] w (OutG (fun q => q=g ∨ q=gs) (Icol w0 g gs bp n) (Vrow k128 w.heap.size) w (Ps.list Ps.column k key ts)) :=
 C_list (along_col (w0:=w0) h.ps.lt (blk_lt h.st) (blk_lt h.box) (Nat.le_of_lt (Nat.lt_of_le_of_lt h.ps.low h.ps.lt))) Ps.column ts.length k hn (fun _ _ _ hI _ => column_clo hI) (fun _ _ _ _ _ hx => column_len hx) key ts h (Nat.le_refl _) hk
structure Ads where
 a2:Option Addr:=none
 c2:Nat:=0
 a4:Option Addr:=none
 c4:Nat:=0
 a5:Option Addr:=none
 c5:Nat:=0
 a6:Option Addr:=none
 c6:Nat:=0
 a7:Option Addr:=none
 c7:Nat:=0
abbrev celA (x:S60) (a:Ads):Array Value:=(cells60 x a.a2 a.c2 a.a4 a.c4 a.a5 a.c5 a.a6 a.c6 a.a7 a.c7).toArray
abbrev StA (ok:Nat → Prop) (w:World) (x:S60) (a:Ads):Prop:=StF ok w x a.a2 a.c2 a.a4 a.c4 a.a5 a.c5 a.a6 a.c6 a.a7 a.c7
structure SQ (w0 w:World) (g bp rb gs:Nat) (x:S60) (a:Ads) (ts:List S32) (wc:World):Prop where
 ps:PS w0 g ts wc
 st:wc.heap[gs]? = some (.cells (celA x a) 60 (0,0))
 fr:StA (fun q => gs < q) wc x a
 box:wc.heap[bp]? = some (.cells #[.pointer (some ⟨g,0,none⟩)] 229 (0,0))
 res:wc.heap[rb]? = some (.cells (celA z60 {}) 60 (0,0))
 gr:Gr g w wc
 o0:g < w.heap.size
 o1:w.heap.size ≤ bp
 o2:bp < rb
 o3:rb < gs
section
variable {w0 w wc wd:World} {g bp rb gs:Nat} {x:S60} {a:Ads} {ts r:List S32}
theorem SQ.lt (h:SQ w0 w g bp rb gs x a ts wc):gs < wc.heap.size:=blk_lt h.st
theorem SQ.cell (h:SQ w0 w g bp rb gs x a ts wc):wc.cell? ⟨bp,0,none⟩=some (.pointer (some ⟨g,0,none⟩)):=(blk_cell h.box 0).trans rfl
theorem SQ.has (h:SQ w0 w g bp rb gs x a ts wc) (i:Nat) (hi:i < 11):∃ v,wc.cell? ⟨gs,i,none⟩=some v:=by
 rw [blk_cell h.st]
 exact ⟨_,Array.getElem?_eq_getElem (by simpa [celA,cells60] using hi)⟩
theorem SQ.frz (h:SQ w0 w g bp rb gs x a ts wc) (i:Nat):wc.frozen? ⟨gs,i,none⟩=false:=blk_frozen h.st i
theorem StF.mono {ok ok':Nat → Prop} {x:S60} {A2 A4 A5 A6 A7:Option Addr} {c2 c4 c5 c6 c7:Nat} {wc:World} (hF:StF ok wc x A2 c2 A4 c4 A5 c5 A6 c6 A7 c7) (hF':∀ q,ok q → ok' q):StF ok' wc x A2 c2 A4 c4 A5 c5 A6 c6 A7 c7 :=
 ⟨hF.l2,Kd.F_mono hF.f2 hF',hF.l4,Kd.F_mono hF.f4 hF',hF.l5,Kd.F_mono hF.f5 hF',hF.l6,Kd.F_mono hF.f6 hF',hF.l7,Kd.F_mono hF.f7 hF'⟩
theorem StF.go {ok:Nat → Prop} {x:S60} {A2 A4 A5 A6 A7:Option Addr} {c2 c4 c5 c6 c7:Nat} {wc wd:World} (hF:StF ok wc x A2 c2 A4 c4 A5 c5 A6 c6 A7 c7) (hg:Gr g wc wd) (hq:∀ q,ok q → q ≠ g):StF ok wd x A2 c2 A4 c4 A5 c5 A6 c6 A7 c7 :=
 ⟨hF.l2,hg.F hF.f2 hq,hF.l4,hg.F hF.f4 hq,hF.l5,hg.F hF.f5 hq,hF.l6,hg.F hF.f6 hq,hF.l7,hg.F hF.f7 hq⟩
theorem StF.far {ok:Nat → Prop} {x:S60} {A2 A4 A5 A6 A7:Option Addr} {c2 c4 c5 c6 c7:Nat} {wc:World} {b:Nat} (hF:StF ok wc x A2 c2 A4 c4 A5 c5 A6 c6 A7 c7) (hq:∀ q,ok q → q ≠ b) (j:Nat) (v:Value):StF ok (wc.setCell ⟨b,j,none⟩ v) x A2 c2 A4 c4 A5 c5 A6 c6 A7 c7 :=
 ⟨hF.l2,Kd.F_far hF.f2 hq _,hF.l4,Kd.F_far hF.f4 hq _,hF.l5,Kd.F_far hF.f5 hq _,hF.l6,Kd.F_far hF.f6 hq _,hF.l7,Kd.F_far hF.f7 hq _⟩
theorem SQ.go (h:SQ w0 w g bp rb gs x a ts wc) (hg:Gr g wc wd) (hp:PS w0 g r wd):SQ w0 w g bp rb gs x a r wd:=by
 have h0:=h.o0
 have h1:=h.o1
 have h2:=h.o2
 have h3:=h.o3
 exact ⟨hp,hg.blk h.st (by omega),h.fr.go hg (fun q hq => by have:gs < q:=hq;omega),hg.blk h.box (by omega),hg.blk h.res (by omega),h.gr.trans hg,h0,h1,h2,h3⟩
theorem SQ.sb (h:SQ w0 w g bp rb gs x a ts wc):SB w0 g gs x ts wc:=⟨h.ps,⟨_,_,_,_,_,_,_,_,_,_,h.st,h.fr⟩,by have:=h.o0;have:=h.o1;have:=h.o2;have:=h.o3;omega⟩
theorem SQ.of_gs (h:SQ w0 w g bp rb gs x a ts wc) (hg:Gs (fun q => q=g ∨ q=gs) wc wd) {y:S60} (hs:SB w0 g gs y r wd):∃ a',SQ w0 w g bp rb gs y a' r wd:=by
 obtain ⟨hp,⟨A2,c2,A4,c4,A5,c5,A6,c6,A7,c7,hb,hF⟩,hl⟩:=hs
 have h0:=h.o0
 have h1:=h.o1
 have h2:=h.o2
 have h3:=h.o3
 refine ⟨⟨A2,c2,A4,c4,A5,c5,A6,c6,A7,c7⟩,hp,hb,hF,hg.blk h.box (by omega),hg.blk h.res (by omega),?_,h0,h1,h2,h3⟩
 exact ⟨hg.os.trans h.gr.os,hg.tape.trans h.gr.tape,hg.output.trans h.gr.output,Nat.le_trans h.gr.size hg.size,fun i hi hn => (hg.block i (Nat.lt_of_lt_of_le hi h.gr.size) (by omega)).trans (h.gr.block i hi hn)⟩
theorem SQ.col (h:SQ w0 w g bp rb gs x a ts wc) {n key:ByteArray} (hx:celA x a=stC n key):Icol w0 g gs bp n key ts wc:=by
 have h0:=h.o0
 have h1:=h.o1
 have h2:=h.o2
 have h3:=h.o3
 have h4:=h.ps.low
 exact ⟨h.ps,hx ▸ h.st,h.box,by omega,by omega,by omega,by omega⟩
theorem SQ.of_col (h:SQ w0 w g bp rb gs x a ts wc) {n key:ByteArray} (hg:Gs (fun q => q=g ∨ q=gs) wc wd) (hi:Icol w0 g gs bp n key r wd):SQ w0 w g bp rb gs { Ps.st0 with f0:=1,f1:=n,f3:=key } {} r wd:=by
 have h0:=h.o0
 have h1:=h.o1
 have h2:=h.o2
 have h3:=h.o3
 have hz:∀ i,i=0 → i ≤ 0:=fun i hi => by omega
 refine ⟨hi.ps,hi.st,⟨Nat.le_refl _,Kd.F_nil _ _ _,Nat.le_refl _,Kd.F_nil _ _ _,Nat.le_refl _,Kd.F_nil _ _ _,Nat.le_refl _,Kd.F_nil _ _ _,Nat.le_refl _,Kd.F_nil _ _ _⟩,hi.box,hg.blk h.res (by omega),?_,h0,h1,h2,h3⟩
 exact ⟨hg.os.trans h.gr.os,hg.tape.trans h.gr.tape,hg.output.trans h.gr.output,Nat.le_trans h.gr.size hg.size,fun i hi hn => (hg.block i (Nat.lt_of_lt_of_le hi h.gr.size) (by omega)).trans (h.gr.block i hi hn)⟩
theorem SQ.putF (h:SQ w0 w g bp rb gs x a ts wc) {y:S60} {b:Ads} (j:Nat) (v:Value) (he:celA y b=(celA x a).setIfInBounds j v) (hf:StA (fun q => gs < q) (wc.setCell ⟨gs,j,none⟩ v) y b):SQ w0 w g bp rb gs y b ts (wc.setCell ⟨gs,j,none⟩ v):=by
 have h0:=h.o0
 have h1:=h.o1
 have h2:=h.o2
 have h3:=h.o3
 have h4:=h.ps.low
 exact ⟨h.ps.setB (by omega) (by omega) _ _,blk_put h.st j _ he.symm,hf,blk_setNe h.box (by omega) _ _,blk_setNe h.res (by omega) _ _,h.gr.setB (by omega) _ _,h0,h1,h2,h3⟩
theorem SQ.put0 (h:SQ w0 w g bp rb gs x a ts wc) (n:Int):SQ w0 w g bp rb gs { x with f0:=n } a ts (wc.setCell ⟨gs,0,none⟩ (.int .i64 n)) :=
 have hf:=h.fr.far (b:=gs) (fun q hq => Nat.ne_of_gt hq) 0 (.int .i64 n)
 h.putF 0 _ rfl ⟨hf.l2,hf.f2,hf.l4,hf.f4,hf.l5,hf.f5,hf.l6,hf.f6,hf.l7,hf.f7⟩
theorem SQ.put1 (h:SQ w0 w g bp rb gs x a ts wc) (s:ByteArray):SQ w0 w g bp rb gs { x with f1:=s } a ts (wc.setCell ⟨gs,1,none⟩ (.string s)) :=
 have hf:=h.fr.far (b:=gs) (fun q hq => Nat.ne_of_gt hq) 1 (.string s)
 h.putF 1 _ rfl ⟨hf.l2,hf.f2,hf.l4,hf.f4,hf.l5,hf.f5,hf.l6,hf.f6,hf.l7,hf.f7⟩
theorem SQ.put2 (h:SQ w0 w g bp rb gs x a ts wc) {l:List S128} {A:Option Addr} {c:Nat} (hc:l.length ≤ c) (hF0:Kd.F k128 wc (fun q => gs < q) A l.length l):SQ w0 w g bp rb gs { x with f2:=l } { a with a2:=A,c2:=c } ts (wc.setCell ⟨gs,2,none⟩ (.slice A l.length c)) :=
 have hf:=h.fr.far (b:=gs) (fun q hq => Nat.ne_of_gt hq) 2 (.slice A l.length c)
 h.putF 2 _ rfl ⟨hc,Kd.F_far hF0 (fun q hq => Nat.ne_of_gt hq) _,hf.l4,hf.f4,hf.l5,hf.f5,hf.l6,hf.f6,hf.l7,hf.f7⟩
theorem SQ.put4 (h:SQ w0 w g bp rb gs x a ts wc) {l:List (List S43)} {A:Option Addr} {c:Nat} (hc:l.length ≤ c) (hF0:Kd.F (Kd.slice 43 k43) wc (fun q => gs < q) A l.length l):SQ w0 w g bp rb gs { x with f4:=l } { a with a4:=A,c4:=c } ts (wc.setCell ⟨gs,4,none⟩ (.slice A l.length c)) :=
 have hf:=h.fr.far (b:=gs) (fun q hq => Nat.ne_of_gt hq) 4 (.slice A l.length c)
 h.putF 4 _ rfl ⟨hf.l2,hf.f2,hc,Kd.F_far hF0 (fun q hq => Nat.ne_of_gt hq) _,hf.l5,hf.f5,hf.l6,hf.f6,hf.l7,hf.f7⟩
theorem SQ.put6 (h:SQ w0 w g bp rb gs x a ts wc) {l:List S90} {A:Option Addr} {c:Nat} (hc:l.length ≤ c) (hF0:Kd.F k90 wc (fun q => gs < q) A l.length l):SQ w0 w g bp rb gs { x with f6:=l } { a with a6:=A,c6:=c } ts (wc.setCell ⟨gs,6,none⟩ (.slice A l.length c)) :=
 have hf:=h.fr.far (b:=gs) (fun q hq => Nat.ne_of_gt hq) 6 (.slice A l.length c)
 h.putF 6 _ rfl ⟨hf.l2,hf.f2,hf.l4,hf.f4,hf.l5,hf.f5,hc,Kd.F_far hF0 (fun q hq => Nat.ne_of_gt hq) _,hf.l7,hf.f7⟩
theorem SQ.put7 (h:SQ w0 w g bp rb gs x a ts wc) {l:List S43} {A:Option Addr} {c:Nat} (hc:l.length ≤ c) (hF0:Kd.F k43 wc (fun q => gs < q) A l.length l):SQ w0 w g bp rb gs { x with f7:=l } { a with a7:=A,c7:=c } ts (wc.setCell ⟨gs,7,none⟩ (.slice A l.length c)) :=
 have hf:=h.fr.far (b:=gs) (fun q hq => Nat.ne_of_gt hq) 7 (.slice A l.length c)
 h.putF 7 _ rfl ⟨hf.l2,hf.f2,hf.l4,hf.f4,hf.l5,hf.f5,hf.l6,hf.f6,hc,Kd.F_far hF0 (fun q hq => Nat.ne_of_gt hq) _⟩
end
def Vst (B:Nat) (w:World) (x:S60) (v:Value):Prop:=∃ a:Ads,v = .agg (celA x a)∧StA (fun q => B ≤ q) w x a
def OutS (g:Nat) (w:World) (m:Option S60) (e:Ending) (w':World):Prop :=
 Gr g w w'∧match m with
  | none => e = .panicked failedV
  | some x => ∃ v,e = .returned v∧Vst w.heap.size w' x v
theorem OutS.none {g:Nat} {w w':World} {m:Option S60} {e:Ending} (h:OutS g w m e w') (hm:m=none):Gr g w w'∧e = .panicked failedV:=by subst hm;exact h
theorem OutS.some {g:Nat} {w w':World} {m:Option S60} {e:Ending} {x:S60} (h:OutS g w m e w') (hm:m=some x):Gr g w w'∧∃ v,e = .returned v∧Vst w.heap.size w' x v:=by subst hm;exact h
theorem OutS.of_none {g:Nat} {w w':World} {m:Option S60} (hm:m=Option.none) (h:Gr g w w'):OutS g w m (.panicked failedV) w':=by subst hm;exact ⟨h,rfl⟩
theorem OutS.of_some {g:Nat} {w w':World} {m:Option S60} {x:S60} {v:Value} (hm:m=Option.some x) (h:Gr g w w') (hv:Vst w.heap.size w' x v):OutS g w m (.returned v) w':=by subst hm;exact ⟨h,v,rfl,hv⟩
end Go.Proofs.YtcgdncpioafbdaaGreatDoor.Q

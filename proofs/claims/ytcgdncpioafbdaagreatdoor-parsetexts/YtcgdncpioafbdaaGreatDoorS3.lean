/- Lemmas for the law: Plaw17 Pw Px Pl Py Pile QlexD TokF Qlaw16D TokL Gap PlU Piece PlTexts Tx. -/
import Derived.Test.YtcgdncpioafbdaaGreatDoorRows
import Derived.Test.YtcgdncpioafbdaaGreatDoorTie
import Derived.Test.YtcgdncpioafbdaaGreatDoorCards
import Derived.Test.YtcgdncpioafbdaaGreatDoorS1
import Derived.Test.YtcgdncpioafbdaaGreatDoorS2
import Derived.WalkLawsBesides
import Derived.Lib.Strings
import Derived.Deep.RegionHeld3
set_option linter.unusedVariables false
set_option linter.unusedSimpArgs false
namespace Go.Proofs.YtcgdncpioafbdaaGreatDoor.Q
open Go.RowKit Go.Proofs.YtcgdncpioafbdaaGreatDoorW.PrintWords Go.Proofs.YtcgdncpioafbdaaGreatDoorW.PrintLast Go.Proofs.YtcgdncpioafbdaaGreatDoorW.PrintMore
attribute [local go_sem] max2_int min2_int max_two min_two max_three min_three max_four min_four
set_option linter.unusedVariables false
set_option linter.unusedSimpArgs false
set_option maxHeartbeats 8000000 in
set_option maxRecDepth 100000 in
theorem vidimuslaw17_minus.calls (k:Nat):∀ (a0_0:ByteArray) (a0_1:Int) (a0_2:Int) (a0_3:ByteArray) (a0_4:ByteArray) (A0_5:Option Addr) (c0_5:Nat) (l0_5:List (S43)) (r:Bool) (w:World) (hr0_5:Kd.C k43 w A0_5 l0_5.length l0_5) (hc0_5:l0_5.length ≤ c0_5) (h:vidimuslaw17_minus.f k a0_0 a0_1 a0_2 a0_3 a0_4 l0_5=some r),
  Calls Tryz.prog 45 #[.agg #[.string a0_0,.int .i64 a0_1,.int .i64 a0_2,.string a0_3,.string a0_4,.slice A0_5 l0_5.length c0_5]] w fun e w' => e = .returned (.bool r)∧Below w.heap.size w w':=by
 induction k using Nat.strongRecOn with
 | _ k ih =>
 intro a0_0 a0_1 a0_2 a0_3 a0_4 A0_5 c0_5 l0_5 r w hr0_5 hc0_5 h
 cases k with
 | zero => exact absurd h (by simp [vidimuslaw17_minus.f])
 | succ k =>
 simp only [vidimuslaw17_minus.f] at h
 have hu43:=Tryz.underlying43
 have HR0_5:=Aside0.mk hr0_5
 have HC0_5:=Aside0.mk hc0_5
 clear hr0_5 hc0_5
 have HB:=Aside0.mk (Below.refl w.heap.size w)
 have H:(if a0_2 < 0 then (some true) else (vidimuslaw17_minus.l0 k l0_5 (l0_5.length:Int) 0))=some r:=h
 clear h
 by_cases c2:a0_2 < 0
 ·rw [if_pos c2] at H
  have c2b0:decide (a0_2 < 0)=true:=decide_eq_true c2
  clear c2
  obtain rfl:=Option.some.inj H
  go_enter Tryz.func45,Tryz.ntmps45
  go_wp2_with (first | ((with_reducible refine gate_dst (N:=1) rfl ?_);refine box_event ?hg (N:=1) ?hd (cs:=#[.string a0_0,.int .i64 a0_1,.int .i64 a0_2,.string a0_3,.string a0_4,.slice A0_5 l0_5.length c0_5]) (t:=43) ?hr ?_;(case hd => rfl);(case hg => rfl);(case hr => first | (go_simp;done) | (go_simp;rfl));intro gb114 hg w3 hbox hb;have n0_:=Aside0.mk (below_step (by repeat (first | (with_reducible first | exact HB.out | apply below_alloc | apply pw_below_drewN | apply below_drew1) | exact HB.out)) hb);have n1_:=Aside0.mk (hbox);have n2_:=Aside0.mk ((by rw [hg];exact (below_size (by repeat (first | (with_reducible first | exact HB.out | apply below_alloc | apply pw_below_drewN | apply below_drew1) | exact HB.out))):w.heap.size ≤ gb114));have n3_:=Aside0.mk ((by rw [hg];exact (below_size (by repeat (first | (with_reducible first | exact HB.out | apply below_alloc | apply pw_below_drewN | apply below_drew1) | exact HB.out))):w.heap.size ≤ gb114));clear HB;have HB:=n0_;have BK114:=n1_;have GW114:=n2_;have GE114:=n3_;clear n0_ n1_ n2_ n3_;clear hb hbox hg;have hcz4_0:w3.cell? ⟨gb114,0,none⟩=some (.string a0_0):=(blk_cell BK114.out 0).trans rfl;have hcz4_1:w3.cell? ⟨gb114,1,none⟩=some (.int .i64 a0_1):=(blk_cell BK114.out 1).trans rfl;have hcz4_2:w3.cell? ⟨gb114,2,none⟩=some (.int .i64 a0_2):=(blk_cell BK114.out 2).trans rfl;have hcz4_3:w3.cell? ⟨gb114,3,none⟩=some (.string a0_3):=(blk_cell BK114.out 3).trans rfl;have hcz4_4:w3.cell? ⟨gb114,4,none⟩=some (.string a0_4):=(blk_cell BK114.out 4).trans rfl;have hcz4_5:w3.cell? ⟨gb114,5,none⟩=some (.slice A0_5 l0_5.length c0_5):=(blk_cell BK114.out 5).trans rfl;have hfz4_0:=blk_frozen BK114.out 0;have hfz4_1:=blk_frozen BK114.out 1;have hfz4_2:=blk_frozen BK114.out 2;have hfz4_3:=blk_frozen BK114.out 3;have hfz4_4:=blk_frozen BK114.out 4;have hfz4_5:=blk_frozen BK114.out 5))
  go_ret
  exact ⟨by first | rfl | (simp [errW_none,errW_some] <;> rfl) | (simp [*,errW_none,errW_some] <;> rfl),by repeat (first | (with_reducible first | exact HB.out | apply below_alloc | apply pw_below_drewN | apply below_drew1 | refine below_set ?_ GE114.out) | exact HB.out)⟩
 ·rw [if_neg c2] at H
  have c2b0:decide (a0_2 < 0)=false:=decide_eq_false c2
  clear c2
  have H':=Aside0.mk H
  clear H
  go_enter Tryz.func45,Tryz.ntmps45
  go_wp2_with (first | ((with_reducible refine gate_dst (N:=1) rfl ?_);refine box_event ?hg (N:=1) ?hd (cs:=#[.string a0_0,.int .i64 a0_1,.int .i64 a0_2,.string a0_3,.string a0_4,.slice A0_5 l0_5.length c0_5]) (t:=43) ?hr ?_;(case hd => rfl);(case hg => rfl);(case hr => first | (go_simp;done) | (go_simp;rfl));intro gb114 hg w5 hbox hb;have n0_:=Aside0.mk (below_step (by repeat (first | (with_reducible first | exact HB.out | apply below_alloc | apply pw_below_drewN | apply below_drew1) | exact HB.out)) hb);have n1_:=Aside0.mk (hbox);have n2_:=Aside0.mk ((by rw [hg];exact (below_size (by repeat (first | (with_reducible first | exact HB.out | apply below_alloc | apply pw_below_drewN | apply below_drew1) | exact HB.out))):w.heap.size ≤ gb114));have n3_:=Aside0.mk ((by rw [hg];exact (below_size (by repeat (first | (with_reducible first | exact HB.out | apply below_alloc | apply pw_below_drewN | apply below_drew1) | exact HB.out))):w.heap.size ≤ gb114));clear HB;have HB:=n0_;have BK114:=n1_;have GW114:=n2_;have GE114:=n3_;clear n0_ n1_ n2_ n3_;clear hb hbox hg;have hcz6_0:w5.cell? ⟨gb114,0,none⟩=some (.string a0_0):=(blk_cell BK114.out 0).trans rfl;have hcz6_1:w5.cell? ⟨gb114,1,none⟩=some (.int .i64 a0_1):=(blk_cell BK114.out 1).trans rfl;have hcz6_2:w5.cell? ⟨gb114,2,none⟩=some (.int .i64 a0_2):=(blk_cell BK114.out 2).trans rfl;have hcz6_3:w5.cell? ⟨gb114,3,none⟩=some (.string a0_3):=(blk_cell BK114.out 3).trans rfl;have hcz6_4:w5.cell? ⟨gb114,4,none⟩=some (.string a0_4):=(blk_cell BK114.out 4).trans rfl;have hcz6_5:w5.cell? ⟨gb114,5,none⟩=some (.slice A0_5 l0_5.length c0_5):=(blk_cell BK114.out 5).trans rfl;have hfz6_0:=blk_frozen BK114.out 0;have hfz6_1:=blk_frozen BK114.out 1;have hfz6_2:=blk_frozen BK114.out 2;have hfz6_3:=blk_frozen BK114.out 3;have hfz6_4:=blk_frozen BK114.out 4;have hfz6_5:=blk_frozen BK114.out 5))
  go_loopg [12] k (fun kq v12 w' => ∃ (x12_1:Int),v12 = .int .i64 x12_1∧Aside0 (vidimuslaw17_minus.l0 kq l0_5 (l0_5.length:Int) x12_1=some r)∧Aside0 (kq ≤ k)∧Aside0 (w'.heap[gb114]? = some (.cells #[.string a0_0,.int .i64 a0_1,.int .i64 a0_2,.string a0_3,.string a0_4,(.slice A0_5 l0_5.length c0_5)] 43 (0,0)))∧Aside0 (Below w.heap.size w w'))
  case atStart => exact ⟨(0),(by first | rfl | (simp;done) | (simp [*];done)),H',⟨Nat.le_refl _⟩,⟨by (with_reducible repeat (first | refine blk_drewN ?_ _ | refine blk_drew ?_ | refine blk_alloc ?_ _));exact BK114.out⟩,⟨by repeat (first | (with_reducible first | exact HB.out | apply below_alloc | apply pw_below_drewN | apply below_drew1 | refine below_set ?_ GE114.out) | exact HB.out)⟩⟩
  case round =>
   clear H'
   try clear c2
   try clear c2b0
   try clear p2
   try clear c4
   try clear hcz4_0
   try clear hcz4_1
   try clear hcz4_2
   try clear hcz4_3
   try clear hcz4_4
   try clear hcz4_5
   try clear hcz6_0
   try clear hcz6_1
   try clear hcz6_2
   try clear hcz6_3
   try clear hcz6_4
   try clear hcz6_5
   try clear hfz4_0
   try clear hfz4_1
   try clear hfz4_2
   try clear hfz4_3
   try clear hfz4_4
   try clear hfz4_5
   try clear hfz6_0
   try clear hfz6_1
   try clear hfz6_2
   try clear hfz6_3
   try clear hfz6_4
   try clear hfz6_5
   obtain ⟨x12_1,rfl,HA,HK1,BK114,HB⟩:=hrel
   cases gk with
   | zero => exact absurd HA.out (by simp [vidimuslaw17_minus.l0])
   | succ k1 =>
    have H:=HA.out
    clear HA
    simp only [vidimuslaw17_minus.l0] at H
    by_cases c7:x12_1 < (l0_5.length:Int)
    ·rw [if_pos c7] at H
     have c7b0:decide (x12_1 < (l0_5.length:Int))=true:=decide_eq_true c7
     clear c7
     by_cases c8:0 ≤ x12_1
     ·rw [if_pos c8] at H
      have c8b0:decide (0 ≤ x12_1)=true:=decide_eq_true c8
      clear c8
      by_cases c9:x12_1 < (l0_5.length:Int)
      ·rw [if_pos c9] at H
       have c9b0:decide (x12_1 < (l0_5.length:Int))=true:=decide_eq_true c9
       clear c9
       replace H:=Option.bind_eq_some_iff.mp H
       obtain ⟨t117,A100,H⟩:=H
       replace H:(if t117=true then (some true) else (vidimuslaw17_minus.l0 k1 l0_5 (l0_5.length:Int) (wrap64 (x12_1 + 1))))=some r:=H
       have A10:=Aside0.mk A100
       clear A100
       by_cases c11:t117=true
       ·subst c11
        have H1:(some true)=some r:=by rw [if_pos rfl] at H;exact H
        clear H
        have H:=H1
        clear H1
        obtain rfl:=Option.some.inj H
        have p115:0 ≤ (x12_1:Int):=of_decide_eq_true (by first | (with_reducible assumption) | assumption)
        have q115:x12_1 < (l0_5.length:Int):=of_decide_eq_true (by first | (with_reducible assumption) | assumption)
        obtain ⟨ad115,A115_5,c115_5,e115,hx115_0,hx115_1,hx115_2,hx115_3,hx115_4,hx115_5,hl115_5,hi115_5⟩:=at_T43 HR0_5.out x12_1 p115 q115
        cases e115
        replace hx115_0:=(HB.out.cell (World.block_lt_of_cell? w _ hx115_0)).trans hx115_0
        replace hx115_1:=(HB.out.cell (World.block_lt_of_cell? w _ hx115_1)).trans hx115_1
        replace hx115_2:=(HB.out.cell (World.block_lt_of_cell? w _ hx115_2)).trans hx115_2
        replace hx115_3:=(HB.out.cell (World.block_lt_of_cell? w _ hx115_3)).trans hx115_3
        replace hx115_4:=(HB.out.cell (World.block_lt_of_cell? w _ hx115_4)).trans hx115_4
        replace hx115_5:=(HB.out.cell (World.block_lt_of_cell? w _ hx115_5)).trans hx115_5
        have HR115_5:=Aside0.mk hi115_5
        have HC115_5:=Aside0.mk hl115_5
        clear hi115_5 hl115_5
        replace p115:=eq_true p115
        replace q115:=eq_true q115
        go_wp2_with (first | ((with_reducible refine gate_dst (N:=4) rfl ?_);refine box_event ?hg (N:=4) ?hd (cs:=#[.string (⟨#[]⟩:ByteArray),.int .i64 0,.int .i64 0,.string (⟨#[]⟩:ByteArray),.string (⟨#[]⟩:ByteArray),.slice none 0 0]) (t:=43) ?hr ?_;(case hd => rfl);(case hg => rfl);(case hr => first | (go_simp;done) | (go_simp;rfl));intro gb116 hg w12 hbox hb;have n0_:=Aside0.mk (blk_below (g:=gb114) (o:=.cells #[.string a0_0,.int .i64 a0_1,.int .i64 a0_2,.string a0_3,.string a0_4,.slice (some ad115) l0_5.length c0_5] 43 (0,0)) (by (with_reducible repeat (first | refine blk_drewN ?_ _ | refine blk_drew ?_ | refine blk_alloc ?_ _));exact BK114.out) hb);have n1_:=Aside0.mk (below_step (by repeat (first | (with_reducible first | exact HB.out | apply below_alloc | apply pw_below_drewN | apply below_drew1 | refine below_set ?_ GE114.out) | exact HB.out)) hb);have n2_:=Aside0.mk (hbox);have n3_:=Aside0.mk ((by rw [hg];exact (below_size (by repeat (first | (with_reducible first | exact HB.out | apply below_alloc | apply pw_below_drewN | apply below_drew1 | refine below_set ?_ GE114.out) | exact HB.out))):w.heap.size ≤ gb116));have n4_:=Aside0.mk ((by rw [hg];exact (below_size (by repeat (first | (with_reducible first | exact HB.out | apply below_alloc | apply pw_below_drewN | apply below_drew1 | refine below_set ?_ GE114.out) | exact HB.out))):w.heap.size ≤ gb116));have n5_:=Aside0.mk ((by rw [hg];exact Nat.ne_of_lt (blk_lt (g:=gb114) (o:=.cells #[.string a0_0,.int .i64 a0_1,.int .i64 a0_2,.string a0_3,.string a0_4,.slice (some ad115) l0_5.length c0_5] 43 (0,0)) (by (with_reducible repeat (first | refine blk_drewN ?_ _ | refine blk_drew ?_ | refine blk_alloc ?_ _));exact BK114.out)):gb114 ≠ gb116));have n6_:=Aside0.mk ((by rw [hg];exact Nat.ne_of_gt (blk_lt (g:=gb114) (o:=.cells #[.string a0_0,.int .i64 a0_1,.int .i64 a0_2,.string a0_3,.string a0_4,.slice (some ad115) l0_5.length c0_5] 43 (0,0)) (by (with_reducible repeat (first | refine blk_drewN ?_ _ | refine blk_drew ?_ | refine blk_alloc ?_ _));exact BK114.out)):gb116 ≠ gb114));clear BK114;clear HB;have BK114:=n0_;have HB:=n1_;have BK116:=n2_;have GW116:=n3_;have GE116:=n4_;have NB114_116:=n5_;have NB116_114:=n6_;clear n0_ n1_ n2_ n3_ n4_ n5_ n6_;clear hb hbox hg;have hnb13:=NB116_114.out;have hnc13:=NB114_116.out;have hcz14_0:w12.cell? ⟨gb116,0,none⟩=some (.string (⟨#[]⟩:ByteArray)):=(blk_cell BK116.out 0).trans rfl;have hcz14_1:w12.cell? ⟨gb116,1,none⟩=some (.int .i64 0):=(blk_cell BK116.out 1).trans rfl;have hcz14_2:w12.cell? ⟨gb116,2,none⟩=some (.int .i64 0):=(blk_cell BK116.out 2).trans rfl;have hcz14_3:w12.cell? ⟨gb116,3,none⟩=some (.string (⟨#[]⟩:ByteArray)):=(blk_cell BK116.out 3).trans rfl;have hcz14_4:w12.cell? ⟨gb116,4,none⟩=some (.string (⟨#[]⟩:ByteArray)):=(blk_cell BK116.out 4).trans rfl;have hcz14_5:w12.cell? ⟨gb116,5,none⟩=some (.slice none 0 0):=(blk_cell BK116.out 5).trans rfl;have hfz14_0:=blk_frozen BK116.out 0;have hfz14_1:=blk_frozen BK116.out 1;have hfz14_2:=blk_frozen BK116.out 2;have hfz14_3:=blk_frozen BK116.out 3;have hfz14_4:=blk_frozen BK116.out 4;have hfz14_5:=blk_frozen BK116.out 5) | ((with_reducible refine gate_callee (f:=45) rfl ?_);refine goesL_ (some 17) rfl rfl Tryz.func45 (by kernel_rfl) rfl #[.agg #[.string ((rd_T43 l0_5 x12_1).f0),.int .i64 ((rd_T43 l0_5 x12_1).f1.f0),.int .i64 ((rd_T43 l0_5 x12_1).f1.f1),.string ((rd_T43 l0_5 x12_1).f1.f2),.string ((rd_T43 l0_5 x12_1).f2),.slice A115_5 ((rd_T43 l0_5 x12_1).f3).length c115_5]] rfl (by (try simp only [List.map_toArray,List.map_cons,List.map_nil]);first | done | rfl | (simp only [List.length_drop,List.length_take];rfl)) ?_;(with_reducible refine (ih k1 (by have:=HK1.out;omega) ((rd_T43 l0_5 x12_1).f0) ((rd_T43 l0_5 x12_1).f1.f0) ((rd_T43 l0_5 x12_1).f1.f1) ((rd_T43 l0_5 x12_1).f1.f2) ((rd_T43 l0_5 x12_1).f2) _ _ ((rd_T43 l0_5 x12_1).f3) true _ ?side1 ?side2 A10.out).mono ?_);(case side1 => exact Kd.C_below HR115_5.out (by repeat (first | (with_reducible first | exact HB.out | apply below_alloc | apply pw_below_drewN | apply below_drew1 | refine below_set ?_ GE114.out | refine below_set ?_ GE116.out) | exact HB.out)));(case side2 => exact HC115_5.out);rintro e w15 ⟨rfl,hb⟩;refine ⟨_,rfl,?_⟩;have n0_:=Aside0.mk (blk_below (g:=gb114) (o:=.cells #[.string a0_0,.int .i64 a0_1,.int .i64 a0_2,.string a0_3,.string a0_4,.slice (some ad115) l0_5.length c0_5] 43 (0,0)) (by (with_reducible repeat (first | refine blk_drewN ?_ _ | refine blk_drew ?_ | refine blk_alloc ?_ _));refine blk_far ?_ NB114_116.out _;(with_reducible repeat (first | refine blk_drewN ?_ _ | refine blk_drew ?_ | refine blk_alloc ?_ _));refine blk_far ?_ NB114_116.out _;(with_reducible repeat (first | refine blk_drewN ?_ _ | refine blk_drew ?_ | refine blk_alloc ?_ _));refine blk_far ?_ NB114_116.out _;(with_reducible repeat (first | refine blk_drewN ?_ _ | refine blk_drew ?_ | refine blk_alloc ?_ _));refine blk_far ?_ NB114_116.out _;(with_reducible repeat (first | refine blk_drewN ?_ _ | refine blk_drew ?_ | refine blk_alloc ?_ _));refine blk_far ?_ NB114_116.out _;(with_reducible repeat (first | refine blk_drewN ?_ _ | refine blk_drew ?_ | refine blk_alloc ?_ _));refine blk_far ?_ NB114_116.out _;(with_reducible repeat (first | refine blk_drewN ?_ _ | refine blk_drew ?_ | refine blk_alloc ?_ _));exact BK114.out) hb);have n1_:=Aside0.mk (blk_below (g:=gb116) (o:=.cells #[.string ((rd_T43 l0_5 x12_1).f0),.int .i64 ((rd_T43 l0_5 x12_1).f1.f0),.int .i64 ((rd_T43 l0_5 x12_1).f1.f1),.string ((rd_T43 l0_5 x12_1).f1.f2),.string ((rd_T43 l0_5 x12_1).f2),.slice A115_5 ((rd_T43 l0_5 x12_1).f3).length c115_5] 43 (0,0)) (by (with_reducible repeat (first | refine blk_drewN ?_ _ | refine blk_drew ?_ | refine blk_alloc ?_ _));refine blk_put (cs:=#[.string ((rd_T43 l0_5 x12_1).f0),.int .i64 ((rd_T43 l0_5 x12_1).f1.f0),.int .i64 ((rd_T43 l0_5 x12_1).f1.f1),.string ((rd_T43 l0_5 x12_1).f1.f2),.string ((rd_T43 l0_5 x12_1).f2),.slice none 0 0]) ?_ 5 _ rfl;(with_reducible repeat (first | refine blk_drewN ?_ _ | refine blk_drew ?_ | refine blk_alloc ?_ _));refine blk_put (cs:=#[.string ((rd_T43 l0_5 x12_1).f0),.int .i64 ((rd_T43 l0_5 x12_1).f1.f0),.int .i64 ((rd_T43 l0_5 x12_1).f1.f1),.string ((rd_T43 l0_5 x12_1).f1.f2),.string (⟨#[]⟩:ByteArray),.slice none 0 0]) ?_ 4 _ rfl;(with_reducible repeat (first | refine blk_drewN ?_ _ | refine blk_drew ?_ | refine blk_alloc ?_ _));refine blk_put (cs:=#[.string ((rd_T43 l0_5 x12_1).f0),.int .i64 ((rd_T43 l0_5 x12_1).f1.f0),.int .i64 ((rd_T43 l0_5 x12_1).f1.f1),.string (⟨#[]⟩:ByteArray),.string (⟨#[]⟩:ByteArray),.slice none 0 0]) ?_ 3 _ rfl;(with_reducible repeat (first | refine blk_drewN ?_ _ | refine blk_drew ?_ | refine blk_alloc ?_ _));refine blk_put (cs:=#[.string ((rd_T43 l0_5 x12_1).f0),.int .i64 ((rd_T43 l0_5 x12_1).f1.f0),.int .i64 0,.string (⟨#[]⟩:ByteArray),.string (⟨#[]⟩:ByteArray),.slice none 0 0]) ?_ 2 _ rfl;(with_reducible repeat (first | refine blk_drewN ?_ _ | refine blk_drew ?_ | refine blk_alloc ?_ _));refine blk_put (cs:=#[.string ((rd_T43 l0_5 x12_1).f0),.int .i64 0,.int .i64 0,.string (⟨#[]⟩:ByteArray),.string (⟨#[]⟩:ByteArray),.slice none 0 0]) ?_ 1 _ rfl;(with_reducible repeat (first | refine blk_drewN ?_ _ | refine blk_drew ?_ | refine blk_alloc ?_ _));refine blk_put (cs:=#[.string (⟨#[]⟩:ByteArray),.int .i64 0,.int .i64 0,.string (⟨#[]⟩:ByteArray),.string (⟨#[]⟩:ByteArray),.slice none 0 0]) ?_ 0 _ rfl;(with_reducible repeat (first | refine blk_drewN ?_ _ | refine blk_drew ?_ | refine blk_alloc ?_ _));exact BK116.out) hb);have n2_:=Aside0.mk (below_step (by repeat (first | (with_reducible first | exact HB.out | apply below_alloc | apply pw_below_drewN | apply below_drew1 | refine below_set ?_ GE114.out | refine below_set ?_ GE116.out) | exact HB.out)) hb);clear BK114;clear BK116;clear HB;have BK114:=n0_;have BK116:=n1_;have HB:=n2_;clear n0_ n1_ n2_;(try clear hb);(try clear hb2);(try clear hk);(try clear hi)))
        go_ret
        exact ⟨by first | rfl | (simp [errW_none,errW_some] <;> rfl) | (simp [*,errW_none,errW_some] <;> rfl),by repeat (first | (with_reducible first | exact HB.out | apply below_alloc | apply pw_below_drewN | apply below_drew1 | refine below_set ?_ GE114.out | refine below_set ?_ GE116.out) | exact HB.out)⟩
       ·replace c11:=Bool.eq_false_iff.mpr c11
        subst c11
        have H1:(vidimuslaw17_minus.l0 k1 l0_5 (l0_5.length:Int) (wrap64 (x12_1 + 1)))=some r:=by rw [if_neg (show ¬ (false=true) by decide)] at H;exact H
        clear H
        have H:=H1
        clear H1
        have H':=Aside0.mk H
        clear H
        have p115:0 ≤ (x12_1:Int):=of_decide_eq_true (by first | (with_reducible assumption) | assumption)
        have q115:x12_1 < (l0_5.length:Int):=of_decide_eq_true (by first | (with_reducible assumption) | assumption)
        obtain ⟨ad115,A115_5,c115_5,e115,hx115_0,hx115_1,hx115_2,hx115_3,hx115_4,hx115_5,hl115_5,hi115_5⟩:=at_T43 HR0_5.out x12_1 p115 q115
        cases e115
        replace hx115_0:=(HB.out.cell (World.block_lt_of_cell? w _ hx115_0)).trans hx115_0
        replace hx115_1:=(HB.out.cell (World.block_lt_of_cell? w _ hx115_1)).trans hx115_1
        replace hx115_2:=(HB.out.cell (World.block_lt_of_cell? w _ hx115_2)).trans hx115_2
        replace hx115_3:=(HB.out.cell (World.block_lt_of_cell? w _ hx115_3)).trans hx115_3
        replace hx115_4:=(HB.out.cell (World.block_lt_of_cell? w _ hx115_4)).trans hx115_4
        replace hx115_5:=(HB.out.cell (World.block_lt_of_cell? w _ hx115_5)).trans hx115_5
        have HR115_5:=Aside0.mk hi115_5
        have HC115_5:=Aside0.mk hl115_5
        clear hi115_5 hl115_5
        replace p115:=eq_true p115
        replace q115:=eq_true q115
        go_wp2_with (first | ((with_reducible refine gate_dst (N:=4) rfl ?_);refine box_event ?hg (N:=4) ?hd (cs:=#[.string (⟨#[]⟩:ByteArray),.int .i64 0,.int .i64 0,.string (⟨#[]⟩:ByteArray),.string (⟨#[]⟩:ByteArray),.slice none 0 0]) (t:=43) ?hr ?_;(case hd => rfl);(case hg => rfl);(case hr => first | (go_simp;done) | (go_simp;rfl));intro gb116 hg w16 hbox hb;have n0_:=Aside0.mk (blk_below (g:=gb114) (o:=.cells #[.string a0_0,.int .i64 a0_1,.int .i64 a0_2,.string a0_3,.string a0_4,.slice (some ad115) l0_5.length c0_5] 43 (0,0)) (by (with_reducible repeat (first | refine blk_drewN ?_ _ | refine blk_drew ?_ | refine blk_alloc ?_ _));exact BK114.out) hb);have n1_:=Aside0.mk (below_step (by repeat (first | (with_reducible first | exact HB.out | apply below_alloc | apply pw_below_drewN | apply below_drew1 | refine below_set ?_ GE114.out) | exact HB.out)) hb);have n2_:=Aside0.mk (hbox);have n3_:=Aside0.mk ((by rw [hg];exact (below_size (by repeat (first | (with_reducible first | exact HB.out | apply below_alloc | apply pw_below_drewN | apply below_drew1 | refine below_set ?_ GE114.out) | exact HB.out))):w.heap.size ≤ gb116));have n4_:=Aside0.mk ((by rw [hg];exact (below_size (by repeat (first | (with_reducible first | exact HB.out | apply below_alloc | apply pw_below_drewN | apply below_drew1 | refine below_set ?_ GE114.out) | exact HB.out))):w.heap.size ≤ gb116));have n5_:=Aside0.mk ((by rw [hg];exact Nat.ne_of_lt (blk_lt (g:=gb114) (o:=.cells #[.string a0_0,.int .i64 a0_1,.int .i64 a0_2,.string a0_3,.string a0_4,.slice (some ad115) l0_5.length c0_5] 43 (0,0)) (by (with_reducible repeat (first | refine blk_drewN ?_ _ | refine blk_drew ?_ | refine blk_alloc ?_ _));exact BK114.out)):gb114 ≠ gb116));have n6_:=Aside0.mk ((by rw [hg];exact Nat.ne_of_gt (blk_lt (g:=gb114) (o:=.cells #[.string a0_0,.int .i64 a0_1,.int .i64 a0_2,.string a0_3,.string a0_4,.slice (some ad115) l0_5.length c0_5] 43 (0,0)) (by (with_reducible repeat (first | refine blk_drewN ?_ _ | refine blk_drew ?_ | refine blk_alloc ?_ _));exact BK114.out)):gb116 ≠ gb114));clear BK114;clear HB;have BK114:=n0_;have HB:=n1_;have BK116:=n2_;have GW116:=n3_;have GE116:=n4_;have NB114_116:=n5_;have NB116_114:=n6_;clear n0_ n1_ n2_ n3_ n4_ n5_ n6_;clear hb hbox hg;have hnb17:=NB116_114.out;have hnc17:=NB114_116.out;have hcz18_0:w16.cell? ⟨gb116,0,none⟩=some (.string (⟨#[]⟩:ByteArray)):=(blk_cell BK116.out 0).trans rfl;have hcz18_1:w16.cell? ⟨gb116,1,none⟩=some (.int .i64 0):=(blk_cell BK116.out 1).trans rfl;have hcz18_2:w16.cell? ⟨gb116,2,none⟩=some (.int .i64 0):=(blk_cell BK116.out 2).trans rfl;have hcz18_3:w16.cell? ⟨gb116,3,none⟩=some (.string (⟨#[]⟩:ByteArray)):=(blk_cell BK116.out 3).trans rfl;have hcz18_4:w16.cell? ⟨gb116,4,none⟩=some (.string (⟨#[]⟩:ByteArray)):=(blk_cell BK116.out 4).trans rfl;have hcz18_5:w16.cell? ⟨gb116,5,none⟩=some (.slice none 0 0):=(blk_cell BK116.out 5).trans rfl;have hfz18_0:=blk_frozen BK116.out 0;have hfz18_1:=blk_frozen BK116.out 1;have hfz18_2:=blk_frozen BK116.out 2;have hfz18_3:=blk_frozen BK116.out 3;have hfz18_4:=blk_frozen BK116.out 4;have hfz18_5:=blk_frozen BK116.out 5) | ((with_reducible refine gate_callee (f:=45) rfl ?_);refine goesL_ (some 17) rfl rfl Tryz.func45 (by kernel_rfl) rfl #[.agg #[.string ((rd_T43 l0_5 x12_1).f0),.int .i64 ((rd_T43 l0_5 x12_1).f1.f0),.int .i64 ((rd_T43 l0_5 x12_1).f1.f1),.string ((rd_T43 l0_5 x12_1).f1.f2),.string ((rd_T43 l0_5 x12_1).f2),.slice A115_5 ((rd_T43 l0_5 x12_1).f3).length c115_5]] rfl (by (try simp only [List.map_toArray,List.map_cons,List.map_nil]);first | done | rfl | (simp only [List.length_drop,List.length_take];rfl)) ?_;(with_reducible refine (ih k1 (by have:=HK1.out;omega) ((rd_T43 l0_5 x12_1).f0) ((rd_T43 l0_5 x12_1).f1.f0) ((rd_T43 l0_5 x12_1).f1.f1) ((rd_T43 l0_5 x12_1).f1.f2) ((rd_T43 l0_5 x12_1).f2) _ _ ((rd_T43 l0_5 x12_1).f3) false _ ?side1 ?side2 A10.out).mono ?_);(case side1 => exact Kd.C_below HR115_5.out (by repeat (first | (with_reducible first | exact HB.out | apply below_alloc | apply pw_below_drewN | apply below_drew1 | refine below_set ?_ GE114.out | refine below_set ?_ GE116.out) | exact HB.out)));(case side2 => exact HC115_5.out);rintro e w19 ⟨rfl,hb⟩;refine ⟨_,rfl,?_⟩;have n0_:=Aside0.mk (blk_below (g:=gb114) (o:=.cells #[.string a0_0,.int .i64 a0_1,.int .i64 a0_2,.string a0_3,.string a0_4,.slice (some ad115) l0_5.length c0_5] 43 (0,0)) (by (with_reducible repeat (first | refine blk_drewN ?_ _ | refine blk_drew ?_ | refine blk_alloc ?_ _));refine blk_far ?_ NB114_116.out _;(with_reducible repeat (first | refine blk_drewN ?_ _ | refine blk_drew ?_ | refine blk_alloc ?_ _));refine blk_far ?_ NB114_116.out _;(with_reducible repeat (first | refine blk_drewN ?_ _ | refine blk_drew ?_ | refine blk_alloc ?_ _));refine blk_far ?_ NB114_116.out _;(with_reducible repeat (first | refine blk_drewN ?_ _ | refine blk_drew ?_ | refine blk_alloc ?_ _));refine blk_far ?_ NB114_116.out _;(with_reducible repeat (first | refine blk_drewN ?_ _ | refine blk_drew ?_ | refine blk_alloc ?_ _));refine blk_far ?_ NB114_116.out _;(with_reducible repeat (first | refine blk_drewN ?_ _ | refine blk_drew ?_ | refine blk_alloc ?_ _));refine blk_far ?_ NB114_116.out _;(with_reducible repeat (first | refine blk_drewN ?_ _ | refine blk_drew ?_ | refine blk_alloc ?_ _));exact BK114.out) hb);have n1_:=Aside0.mk (blk_below (g:=gb116) (o:=.cells #[.string ((rd_T43 l0_5 x12_1).f0),.int .i64 ((rd_T43 l0_5 x12_1).f1.f0),.int .i64 ((rd_T43 l0_5 x12_1).f1.f1),.string ((rd_T43 l0_5 x12_1).f1.f2),.string ((rd_T43 l0_5 x12_1).f2),.slice A115_5 ((rd_T43 l0_5 x12_1).f3).length c115_5] 43 (0,0)) (by (with_reducible repeat (first | refine blk_drewN ?_ _ | refine blk_drew ?_ | refine blk_alloc ?_ _));refine blk_put (cs:=#[.string ((rd_T43 l0_5 x12_1).f0),.int .i64 ((rd_T43 l0_5 x12_1).f1.f0),.int .i64 ((rd_T43 l0_5 x12_1).f1.f1),.string ((rd_T43 l0_5 x12_1).f1.f2),.string ((rd_T43 l0_5 x12_1).f2),.slice none 0 0]) ?_ 5 _ rfl;(with_reducible repeat (first | refine blk_drewN ?_ _ | refine blk_drew ?_ | refine blk_alloc ?_ _));refine blk_put (cs:=#[.string ((rd_T43 l0_5 x12_1).f0),.int .i64 ((rd_T43 l0_5 x12_1).f1.f0),.int .i64 ((rd_T43 l0_5 x12_1).f1.f1),.string ((rd_T43 l0_5 x12_1).f1.f2),.string (⟨#[]⟩:ByteArray),.slice none 0 0]) ?_ 4 _ rfl;(with_reducible repeat (first | refine blk_drewN ?_ _ | refine blk_drew ?_ | refine blk_alloc ?_ _));refine blk_put (cs:=#[.string ((rd_T43 l0_5 x12_1).f0),.int .i64 ((rd_T43 l0_5 x12_1).f1.f0),.int .i64 ((rd_T43 l0_5 x12_1).f1.f1),.string (⟨#[]⟩:ByteArray),.string (⟨#[]⟩:ByteArray),.slice none 0 0]) ?_ 3 _ rfl;(with_reducible repeat (first | refine blk_drewN ?_ _ | refine blk_drew ?_ | refine blk_alloc ?_ _));refine blk_put (cs:=#[.string ((rd_T43 l0_5 x12_1).f0),.int .i64 ((rd_T43 l0_5 x12_1).f1.f0),.int .i64 0,.string (⟨#[]⟩:ByteArray),.string (⟨#[]⟩:ByteArray),.slice none 0 0]) ?_ 2 _ rfl;(with_reducible repeat (first | refine blk_drewN ?_ _ | refine blk_drew ?_ | refine blk_alloc ?_ _));refine blk_put (cs:=#[.string ((rd_T43 l0_5 x12_1).f0),.int .i64 0,.int .i64 0,.string (⟨#[]⟩:ByteArray),.string (⟨#[]⟩:ByteArray),.slice none 0 0]) ?_ 1 _ rfl;(with_reducible repeat (first | refine blk_drewN ?_ _ | refine blk_drew ?_ | refine blk_alloc ?_ _));refine blk_put (cs:=#[.string (⟨#[]⟩:ByteArray),.int .i64 0,.int .i64 0,.string (⟨#[]⟩:ByteArray),.string (⟨#[]⟩:ByteArray),.slice none 0 0]) ?_ 0 _ rfl;(with_reducible repeat (first | refine blk_drewN ?_ _ | refine blk_drew ?_ | refine blk_alloc ?_ _));exact BK116.out) hb);have n2_:=Aside0.mk (below_step (by repeat (first | (with_reducible first | exact HB.out | apply below_alloc | apply pw_below_drewN | apply below_drew1 | refine below_set ?_ GE114.out | refine below_set ?_ GE116.out) | exact HB.out)) hb);clear BK114;clear BK116;clear HB;have BK114:=n0_;have BK116:=n1_;have HB:=n2_;clear n0_ n1_ n2_;(try clear hb);(try clear hb2);(try clear hk);(try clear hi)))
        go_roundg k1
        case measure => have:=HK1.out;omega
        case rel => exact ⟨(wrap64 (x12_1 + 1)),(by first | rfl | (simp;done) | (simp [*];done)),H',⟨by have:=HK1.out;omega⟩,⟨by (with_reducible repeat (first | refine blk_drewN ?_ _ | refine blk_drew ?_ | refine blk_alloc ?_ _));exact BK114.out⟩,⟨by repeat (first | (with_reducible first | exact HB.out | apply below_alloc | apply pw_below_drewN | apply below_drew1 | refine below_set ?_ GE114.out | refine below_set ?_ GE116.out) | exact HB.out)⟩⟩
      ·rw [if_neg c9] at H
       exact absurd H (by simp)
     ·rw [if_neg c8] at H
      exact absurd H (by simp)
    ·rw [if_neg c7] at H
     have c7b0:decide (x12_1 < (l0_5.length:Int))=false:=decide_eq_false c7
     clear c7
     obtain rfl:=Option.some.inj H
     go_wp2
     go_ret
     exact ⟨by first | rfl | (simp [errW_none,errW_some] <;> rfl) | (simp [*,errW_none,errW_some] <;> rfl),by repeat (first | (with_reducible first | exact HB.out | apply below_alloc | apply pw_below_drewN | apply below_drew1 | refine below_set ?_ GE114.out) | exact HB.out)⟩
set_option maxHeartbeats 8000000 in
set_option maxRecDepth 100000 in
theorem vidimuslaw17_Name.calls (k:Nat) (a0:ByteArray) (r:ByteArray) (w:World) (h:vidimuslaw17_Name.f k a0=some r) :
  Calls Tryz.prog 72 #[.string a0] w fun e w' => e = .returned (.string r)∧Below w.heap.size w w':=by
 have HB:=Aside0.mk (Below.refl w.heap.size w)
 have H:(vidimuslaw17_Name.l0 k a0 0)=some r:=h
 clear h
 have H':=Aside0.mk H
 clear H
 go_enter Tryz.func72,Tryz.ntmps72
 go_wp2
 go_loopg [3] k (fun kq v3 w' => ∃ (x3_1:Int),v3 = .int .i64 x3_1∧Aside0 (vidimuslaw17_Name.l0 kq a0 x3_1=some r)∧Aside0 (kq ≤ k)∧Aside0 (Below w.heap.size w w'))
 case atStart => exact ⟨(0),(by first | rfl | (simp;done) | (simp [*];done)),H',⟨Nat.le_refl _⟩,⟨by repeat (first | (with_reducible first | exact HB.out | apply below_alloc | apply pw_below_drewN | apply below_drew1) | exact HB.out)⟩⟩
 case round =>
  clear H'
  obtain ⟨x3_1,rfl,HA,HK1,HB⟩:=hrel
  cases gk with
  | zero => exact absurd HA.out (by simp [vidimuslaw17_Name.l0])
  | succ k1 =>
   have H:=HA.out
   clear HA
   simp only [vidimuslaw17_Name.l0] at H
   by_cases c2:x3_1 < (a0.size:Int)
   ·rw [if_pos c2] at H
    have c2b0:decide (x3_1 < (a0.size:Int))=true:=decide_eq_true c2
    clear c2
    by_cases c3:x3_1 < 10
    ·rw [if_pos c3] at H
     have c3b0:decide (x3_1 < 10)=true:=decide_eq_true c3
     clear c3
     by_cases c4:0 ≤ x3_1
     ·rw [if_pos c4] at H
      have c4b0:decide (0 ≤ x3_1)=true:=decide_eq_true c4
      clear c4
      by_cases c6:(bt a0 x3_1) ≥ 97
      ·rw [if_pos c6] at H
       have c6b0:decide (97 ≤ (bt a0 x3_1))=true:=decide_eq_true c6
       clear c6
       by_cases c8:(bt a0 x3_1) ≤ 122
       ·rw [if_pos c8] at H
        have c8b0:decide ((bt a0 x3_1) ≤ 122)=true:=decide_eq_true c8
        clear c8
        have H':=Aside0.mk H
        clear H
        have p5:0 ≤ (x3_1:Int):=of_decide_eq_true (by first | (with_reducible assumption) | assumption)
        have q5:x3_1 < (a0.size:Int):=of_decide_eq_true (by first | (with_reducible assumption) | assumption)
        have hx5:=bt_at a0 x3_1
        replace p5:=eq_true p5
        replace q5:=eq_true q5
        have p7:0 ≤ (x3_1:Int):=of_decide_eq_true (by first | (with_reducible assumption) | assumption)
        have q7:x3_1 < (a0.size:Int):=of_decide_eq_true (by first | (with_reducible assumption) | assumption)
        have hx7:=bt_at a0 x3_1
        replace p7:=eq_true p7
        replace q7:=eq_true q7
        go_wp2
        go_roundg k1
        case measure => have:=HK1.out;omega
        case rel => exact ⟨(wrap64 (x3_1 + 1)),(by first | rfl | (simp;done) | (simp [*];done)),H',⟨by have:=HK1.out;omega⟩,⟨by repeat (first | (with_reducible first | exact HB.out | apply below_alloc | apply pw_below_drewN | apply below_drew1) | exact HB.out)⟩⟩
       ·rw [if_neg c8] at H
        have c8b0:decide ((bt a0 x3_1) ≤ 122)=false:=decide_eq_false c8
        clear c8
        by_cases c9:x3_1=0
        ·rw [if_pos c9] at H
         have c9b0:(x3_1 == 0)=true:=beq_iff_eq.mpr c9
         have c9b1:(x3_1 != 0)=false:=bne_eq_false_iff_eq.mpr c9
         clear c9
         obtain rfl:=Option.some.inj H
         have p5:0 ≤ (x3_1:Int):=of_decide_eq_true (by first | (with_reducible assumption) | assumption)
         have q5:x3_1 < (a0.size:Int):=of_decide_eq_true (by first | (with_reducible assumption) | assumption)
         have hx5:=bt_at a0 x3_1
         replace p5:=eq_true p5
         replace q5:=eq_true q5
         have p7:0 ≤ (x3_1:Int):=of_decide_eq_true (by first | (with_reducible assumption) | assumption)
         have q7:x3_1 < (a0.size:Int):=of_decide_eq_true (by first | (with_reducible assumption) | assumption)
         have hx7:=bt_at a0 x3_1
         replace p7:=eq_true p7
         replace q7:=eq_true q7
         go_wp2
         go_ret
         exact ⟨by first | rfl | (simp [errW_none,errW_some] <;> rfl) | (simp [*,errW_none,errW_some] <;> rfl),by repeat (first | (with_reducible first | exact HB.out | apply below_alloc | apply pw_below_drewN | apply below_drew1) | exact HB.out)⟩
        ·rw [if_neg c9] at H
         have c9b0:(x3_1 == 0)=false:=beq_eq_false_iff_ne.mpr c9
         have c9b1:(x3_1 != 0)=true:=bne_iff_ne.mpr c9
         have c10b0:=eq_true (of_decide_eq_true (by first | (with_reducible assumption) | assumption):0 ≤ x3_1)
         by_cases c11:x3_1 ≤ (a0.size:Int)
         ·rw [if_pos c11] at H
          have c11b0:=eq_true c11
          have c11b1:decide (x3_1 ≤ (a0.size:Int))=true:=decide_eq_true c11
          clear c11
          replace H:=Option.bind_eq_some_iff.mp H
          obtain ⟨t122,A120,H⟩:=H
          replace H:(if t122=true then (some (⟨#[120]⟩:ByteArray)) else (some (a0.extract 0 (x3_1:Int).toNat)))=some r:=H
          have A12:=Aside0.mk A120
          clear A120
          by_cases c13:t122=true
          ·subst c13
           have H1:(some (⟨#[120]⟩:ByteArray))=some r:=by rw [if_pos rfl] at H;exact H
           clear H
           have H:=H1
           clear H1
           obtain rfl:=Option.some.inj H
           have p5:0 ≤ (x3_1:Int):=of_decide_eq_true (by first | (with_reducible assumption) | assumption)
           have q5:x3_1 < (a0.size:Int):=of_decide_eq_true (by first | (with_reducible assumption) | assumption)
           have hx5:=bt_at a0 x3_1
           replace p5:=eq_true p5
           replace q5:=eq_true q5
           have p7:0 ≤ (x3_1:Int):=of_decide_eq_true (by first | (with_reducible assumption) | assumption)
           have q7:x3_1 < (a0.size:Int):=of_decide_eq_true (by first | (with_reducible assumption) | assumption)
           have hx7:=bt_at a0 x3_1
           replace p7:=eq_true p7
           replace q7:=eq_true q7
           go_wp2_with (first | (go_at_call 50;(with_reducible refine (vidimusref17_Reserved.calls k1 (a0.extract 0 (x3_1:Int).toNat) true _ A12.out).mono ?_);rintro e w14 ⟨rfl,hb⟩;have n0_:=Aside0.mk (below_step (by repeat (first | (with_reducible first | exact HB.out | apply below_alloc | apply pw_below_drewN | apply below_drew1) | exact HB.out)) hb);clear HB;have HB:=n0_;clear n0_;(try clear hb);(try clear hb2);(try clear hk);(try clear hi)))
           go_ret
           exact ⟨by first | rfl | (simp [errW_none,errW_some] <;> rfl) | (simp [*,errW_none,errW_some] <;> rfl),by repeat (first | (with_reducible first | exact HB.out | apply below_alloc | apply pw_below_drewN | apply below_drew1) | exact HB.out)⟩
          ·replace c13:=Bool.eq_false_iff.mpr c13
           subst c13
           have H1:(some (a0.extract 0 (x3_1:Int).toNat))=some r:=by rw [if_neg (show ¬ (false=true) by decide)] at H;exact H
           clear H
           have H:=H1
           clear H1
           have c15b0:=eq_true (of_decide_eq_true (by first | (with_reducible assumption) | assumption):0 ≤ x3_1)
           have c16b0:=eq_true (of_decide_eq_true (by first | (with_reducible assumption) | assumption):x3_1 ≤ (a0.size:Int))
           obtain rfl:=Option.some.inj H
           have p5:0 ≤ (x3_1:Int):=of_decide_eq_true (by first | (with_reducible assumption) | assumption)
           have q5:x3_1 < (a0.size:Int):=of_decide_eq_true (by first | (with_reducible assumption) | assumption)
           have hx5:=bt_at a0 x3_1
           replace p5:=eq_true p5
           replace q5:=eq_true q5
           have p7:0 ≤ (x3_1:Int):=of_decide_eq_true (by first | (with_reducible assumption) | assumption)
           have q7:x3_1 < (a0.size:Int):=of_decide_eq_true (by first | (with_reducible assumption) | assumption)
           have hx7:=bt_at a0 x3_1
           replace p7:=eq_true p7
           replace q7:=eq_true q7
           go_wp2_with (first | (go_at_call 50;(with_reducible refine (vidimusref17_Reserved.calls k1 (a0.extract 0 (x3_1:Int).toNat) false _ A12.out).mono ?_);rintro e w17 ⟨rfl,hb⟩;have n0_:=Aside0.mk (below_step (by repeat (first | (with_reducible first | exact HB.out | apply below_alloc | apply pw_below_drewN | apply below_drew1) | exact HB.out)) hb);clear HB;have HB:=n0_;clear n0_;(try clear hb);(try clear hb2);(try clear hk);(try clear hi)))
           go_ret
           exact ⟨by first | rfl | (simp [errW_none,errW_some] <;> rfl) | (simp [*,errW_none,errW_some] <;> rfl),by repeat (first | (with_reducible first | exact HB.out | apply below_alloc | apply pw_below_drewN | apply below_drew1) | exact HB.out)⟩
         ·rw [if_neg c11] at H
          exact absurd H (by simp)
      ·rw [if_neg c6] at H
       have c6b0:decide (97 ≤ (bt a0 x3_1))=false:=decide_eq_false c6
       clear c6
       by_cases c18:x3_1=0
       ·rw [if_pos c18] at H
        have c18b0:(x3_1 == 0)=true:=beq_iff_eq.mpr c18
        have c18b1:(x3_1 != 0)=false:=bne_eq_false_iff_eq.mpr c18
        clear c18
        obtain rfl:=Option.some.inj H
        have p5:0 ≤ (x3_1:Int):=of_decide_eq_true (by first | (with_reducible assumption) | assumption)
        have q5:x3_1 < (a0.size:Int):=of_decide_eq_true (by first | (with_reducible assumption) | assumption)
        have hx5:=bt_at a0 x3_1
        replace p5:=eq_true p5
        replace q5:=eq_true q5
        go_wp2
        go_ret
        exact ⟨by first | rfl | (simp [errW_none,errW_some] <;> rfl) | (simp [*,errW_none,errW_some] <;> rfl),by repeat (first | (with_reducible first | exact HB.out | apply below_alloc | apply pw_below_drewN | apply below_drew1) | exact HB.out)⟩
       ·rw [if_neg c18] at H
        have c18b0:(x3_1 == 0)=false:=beq_eq_false_iff_ne.mpr c18
        have c18b1:(x3_1 != 0)=true:=bne_iff_ne.mpr c18
        have c19b0:=eq_true (of_decide_eq_true (by first | (with_reducible assumption) | assumption):0 ≤ x3_1)
        by_cases c20:x3_1 ≤ (a0.size:Int)
        ·rw [if_pos c20] at H
         have c20b0:=eq_true c20
         have c20b1:decide (x3_1 ≤ (a0.size:Int))=true:=decide_eq_true c20
         clear c20
         replace H:=Option.bind_eq_some_iff.mp H
         obtain ⟨t123,A210,H⟩:=H
         replace H:(if t123=true then (some (⟨#[120]⟩:ByteArray)) else (some (a0.extract 0 (x3_1:Int).toNat)))=some r:=H
         have A21:=Aside0.mk A210
         clear A210
         by_cases c22:t123=true
         ·subst c22
          have H1:(some (⟨#[120]⟩:ByteArray))=some r:=by rw [if_pos rfl] at H;exact H
          clear H
          have H:=H1
          clear H1
          obtain rfl:=Option.some.inj H
          have p5:0 ≤ (x3_1:Int):=of_decide_eq_true (by first | (with_reducible assumption) | assumption)
          have q5:x3_1 < (a0.size:Int):=of_decide_eq_true (by first | (with_reducible assumption) | assumption)
          have hx5:=bt_at a0 x3_1
          replace p5:=eq_true p5
          replace q5:=eq_true q5
          go_wp2_with (first | (go_at_call 50;(with_reducible refine (vidimusref17_Reserved.calls k1 (a0.extract 0 (x3_1:Int).toNat) true _ A21.out).mono ?_);rintro e w23 ⟨rfl,hb⟩;have n0_:=Aside0.mk (below_step (by repeat (first | (with_reducible first | exact HB.out | apply below_alloc | apply pw_below_drewN | apply below_drew1) | exact HB.out)) hb);clear HB;have HB:=n0_;clear n0_;(try clear hb);(try clear hb2);(try clear hk);(try clear hi)))
          go_ret
          exact ⟨by first | rfl | (simp [errW_none,errW_some] <;> rfl) | (simp [*,errW_none,errW_some] <;> rfl),by repeat (first | (with_reducible first | exact HB.out | apply below_alloc | apply pw_below_drewN | apply below_drew1) | exact HB.out)⟩
         ·replace c22:=Bool.eq_false_iff.mpr c22
          subst c22
          have H1:(some (a0.extract 0 (x3_1:Int).toNat))=some r:=by rw [if_neg (show ¬ (false=true) by decide)] at H;exact H
          clear H
          have H:=H1
          clear H1
          have c24b0:=eq_true (of_decide_eq_true (by first | (with_reducible assumption) | assumption):0 ≤ x3_1)
          have c25b0:=eq_true (of_decide_eq_true (by first | (with_reducible assumption) | assumption):x3_1 ≤ (a0.size:Int))
          obtain rfl:=Option.some.inj H
          have p5:0 ≤ (x3_1:Int):=of_decide_eq_true (by first | (with_reducible assumption) | assumption)
          have q5:x3_1 < (a0.size:Int):=of_decide_eq_true (by first | (with_reducible assumption) | assumption)
          have hx5:=bt_at a0 x3_1
          replace p5:=eq_true p5
          replace q5:=eq_true q5
          go_wp2_with (first | (go_at_call 50;(with_reducible refine (vidimusref17_Reserved.calls k1 (a0.extract 0 (x3_1:Int).toNat) false _ A21.out).mono ?_);rintro e w26 ⟨rfl,hb⟩;have n0_:=Aside0.mk (below_step (by repeat (first | (with_reducible first | exact HB.out | apply below_alloc | apply pw_below_drewN | apply below_drew1) | exact HB.out)) hb);clear HB;have HB:=n0_;clear n0_;(try clear hb);(try clear hb2);(try clear hk);(try clear hi)))
          go_ret
          exact ⟨by first | rfl | (simp [errW_none,errW_some] <;> rfl) | (simp [*,errW_none,errW_some] <;> rfl),by repeat (first | (with_reducible first | exact HB.out | apply below_alloc | apply pw_below_drewN | apply below_drew1) | exact HB.out)⟩
        ·rw [if_neg c20] at H
         exact absurd H (by simp)
     ·rw [if_neg c4] at H
      exact absurd H (by simp)
    ·rw [if_neg c3] at H
     have c3b0:decide (x3_1 < 10)=false:=decide_eq_false c3
     clear c3
     by_cases c27:x3_1=0
     ·rw [if_pos c27] at H
      have c27b0:(x3_1 == 0)=true:=beq_iff_eq.mpr c27
      have c27b1:(x3_1 != 0)=false:=bne_eq_false_iff_eq.mpr c27
      clear c27
      obtain rfl:=Option.some.inj H
      go_wp2
      go_ret
      exact ⟨by first | rfl | (simp [errW_none,errW_some] <;> rfl) | (simp [*,errW_none,errW_some] <;> rfl),by repeat (first | (with_reducible first | exact HB.out | apply below_alloc | apply pw_below_drewN | apply below_drew1) | exact HB.out)⟩
     ·rw [if_neg c27] at H
      have c27b0:(x3_1 == 0)=false:=beq_eq_false_iff_ne.mpr c27
      have c27b1:(x3_1 != 0)=true:=bne_iff_ne.mpr c27
      by_cases c28:0 ≤ x3_1
      ·rw [if_pos c28] at H
       have c28b0:=eq_true c28
       have c28b1:decide (0 ≤ x3_1)=true:=decide_eq_true c28
       clear c28
       by_cases c29:x3_1 ≤ (a0.size:Int)
       ·rw [if_pos c29] at H
        have c29b0:=eq_true c29
        have c29b1:decide (x3_1 ≤ (a0.size:Int))=true:=decide_eq_true c29
        clear c29
        replace H:=Option.bind_eq_some_iff.mp H
        obtain ⟨t124,A300,H⟩:=H
        replace H:(if t124=true then (some (⟨#[120]⟩:ByteArray)) else (some (a0.extract 0 (x3_1:Int).toNat)))=some r:=H
        have A30:=Aside0.mk A300
        clear A300
        by_cases c31:t124=true
        ·subst c31
         have H1:(some (⟨#[120]⟩:ByteArray))=some r:=by rw [if_pos rfl] at H;exact H
         clear H
         have H:=H1
         clear H1
         obtain rfl:=Option.some.inj H
         go_wp2_with (first | (go_at_call 50;(with_reducible refine (vidimusref17_Reserved.calls k1 (a0.extract 0 (x3_1:Int).toNat) true _ A30.out).mono ?_);rintro e w32 ⟨rfl,hb⟩;have n0_:=Aside0.mk (below_step (by repeat (first | (with_reducible first | exact HB.out | apply below_alloc | apply pw_below_drewN | apply below_drew1) | exact HB.out)) hb);clear HB;have HB:=n0_;clear n0_;(try clear hb);(try clear hb2);(try clear hk);(try clear hi)))
         go_ret
         exact ⟨by first | rfl | (simp [errW_none,errW_some] <;> rfl) | (simp [*,errW_none,errW_some] <;> rfl),by repeat (first | (with_reducible first | exact HB.out | apply below_alloc | apply pw_below_drewN | apply below_drew1) | exact HB.out)⟩
        ·replace c31:=Bool.eq_false_iff.mpr c31
         subst c31
         have H1:(some (a0.extract 0 (x3_1:Int).toNat))=some r:=by rw [if_neg (show ¬ (false=true) by decide)] at H;exact H
         clear H
         have H:=H1
         clear H1
         have c33b0:=eq_true (of_decide_eq_true (by first | (with_reducible assumption) | assumption):0 ≤ x3_1)
         have c34b0:=eq_true (of_decide_eq_true (by first | (with_reducible assumption) | assumption):x3_1 ≤ (a0.size:Int))
         obtain rfl:=Option.some.inj H
         go_wp2_with (first | (go_at_call 50;(with_reducible refine (vidimusref17_Reserved.calls k1 (a0.extract 0 (x3_1:Int).toNat) false _ A30.out).mono ?_);rintro e w35 ⟨rfl,hb⟩;have n0_:=Aside0.mk (below_step (by repeat (first | (with_reducible first | exact HB.out | apply below_alloc | apply pw_below_drewN | apply below_drew1) | exact HB.out)) hb);clear HB;have HB:=n0_;clear n0_;(try clear hb);(try clear hb2);(try clear hk);(try clear hi)))
         go_ret
         exact ⟨by first | rfl | (simp [errW_none,errW_some] <;> rfl) | (simp [*,errW_none,errW_some] <;> rfl),by repeat (first | (with_reducible first | exact HB.out | apply below_alloc | apply pw_below_drewN | apply below_drew1) | exact HB.out)⟩
       ·rw [if_neg c29] at H
        exact absurd H (by simp)
      ·rw [if_neg c28] at H
       exact absurd H (by simp)
   ·rw [if_neg c2] at H
    have c2b0:decide (x3_1 < (a0.size:Int))=false:=decide_eq_false c2
    clear c2
    by_cases c36:x3_1=0
    ·rw [if_pos c36] at H
     have c36b0:(x3_1 == 0)=true:=beq_iff_eq.mpr c36
     have c36b1:(x3_1 != 0)=false:=bne_eq_false_iff_eq.mpr c36
     clear c36
     obtain rfl:=Option.some.inj H
     go_wp2
     go_ret
     exact ⟨by first | rfl | (simp [errW_none,errW_some] <;> rfl) | (simp [*,errW_none,errW_some] <;> rfl),by repeat (first | (with_reducible first | exact HB.out | apply below_alloc | apply pw_below_drewN | apply below_drew1) | exact HB.out)⟩
    ·rw [if_neg c36] at H
     have c36b0:(x3_1 == 0)=false:=beq_eq_false_iff_ne.mpr c36
     have c36b1:(x3_1 != 0)=true:=bne_iff_ne.mpr c36
     by_cases c37:0 ≤ x3_1
     ·rw [if_pos c37] at H
      have c37b0:=eq_true c37
      have c37b1:decide (0 ≤ x3_1)=true:=decide_eq_true c37
      clear c37
      by_cases c38:x3_1 ≤ (a0.size:Int)
      ·rw [if_pos c38] at H
       have c38b0:=eq_true c38
       have c38b1:decide (x3_1 ≤ (a0.size:Int))=true:=decide_eq_true c38
       clear c38
       replace H:=Option.bind_eq_some_iff.mp H
       obtain ⟨t125,A390,H⟩:=H
       replace H:(if t125=true then (some (⟨#[120]⟩:ByteArray)) else (some (a0.extract 0 (x3_1:Int).toNat)))=some r:=H
       have A39:=Aside0.mk A390
       clear A390
       by_cases c40:t125=true
       ·subst c40
        have H1:(some (⟨#[120]⟩:ByteArray))=some r:=by rw [if_pos rfl] at H;exact H
        clear H
        have H:=H1
        clear H1
        obtain rfl:=Option.some.inj H
        go_wp2_with (first | (go_at_call 50;(with_reducible refine (vidimusref17_Reserved.calls k1 (a0.extract 0 (x3_1:Int).toNat) true _ A39.out).mono ?_);rintro e w41 ⟨rfl,hb⟩;have n0_:=Aside0.mk (below_step (by repeat (first | (with_reducible first | exact HB.out | apply below_alloc | apply pw_below_drewN | apply below_drew1) | exact HB.out)) hb);clear HB;have HB:=n0_;clear n0_;(try clear hb);(try clear hb2);(try clear hk);(try clear hi)))
        go_ret
        exact ⟨by first | rfl | (simp [errW_none,errW_some] <;> rfl) | (simp [*,errW_none,errW_some] <;> rfl),by repeat (first | (with_reducible first | exact HB.out | apply below_alloc | apply pw_below_drewN | apply below_drew1) | exact HB.out)⟩
       ·replace c40:=Bool.eq_false_iff.mpr c40
        subst c40
        have H1:(some (a0.extract 0 (x3_1:Int).toNat))=some r:=by rw [if_neg (show ¬ (false=true) by decide)] at H;exact H
        clear H
        have H:=H1
        clear H1
        have c42b0:=eq_true (of_decide_eq_true (by first | (with_reducible assumption) | assumption):0 ≤ x3_1)
        have c43b0:=eq_true (of_decide_eq_true (by first | (with_reducible assumption) | assumption):x3_1 ≤ (a0.size:Int))
        obtain rfl:=Option.some.inj H
        go_wp2_with (first | (go_at_call 50;(with_reducible refine (vidimusref17_Reserved.calls k1 (a0.extract 0 (x3_1:Int).toNat) false _ A39.out).mono ?_);rintro e w44 ⟨rfl,hb⟩;have n0_:=Aside0.mk (below_step (by repeat (first | (with_reducible first | exact HB.out | apply below_alloc | apply pw_below_drewN | apply below_drew1) | exact HB.out)) hb);clear HB;have HB:=n0_;clear n0_;(try clear hb);(try clear hb2);(try clear hk);(try clear hi)))
        go_ret
        exact ⟨by first | rfl | (simp [errW_none,errW_some] <;> rfl) | (simp [*,errW_none,errW_some] <;> rfl),by repeat (first | (with_reducible first | exact HB.out | apply below_alloc | apply pw_below_drewN | apply below_drew1) | exact HB.out)⟩
      ·rw [if_neg c38] at H
       exact absurd H (by simp)
     ·rw [if_neg c37] at H
      exact absurd H (by simp)
end Go.Proofs.YtcgdncpioafbdaaGreatDoor.Q
namespace Go.Proofs.YtcgdncpioafbdaaGreatDoor.Q
open Go Go.RowKit Go.Proofs.YtcgdncpioafbdaaGreatDoorW.PrintWords
structure Gr (g:Nat) (w w':World):Prop where
 os:w'.os=w.os
 tape:w'.tape=w.tape
 output:w'.output=w.output
 size:w.heap.size ≤ w'.heap.size
 block:∀ i,i < w.heap.size → i ≠ g → w'.heap[i]? = w.heap[i]?
theorem Gr.refl (g:Nat) (w:World):Gr g w w:=⟨rfl,rfl,rfl,Nat.le_refl _,fun _ _ _ => rfl⟩
theorem Gr.trans {g:Nat} {w w1 w2:World} (h:Gr g w w1) (k:Gr g w1 w2):Gr g w w2 :=
 ⟨k.os.trans h.os,k.tape.trans h.tape,k.output.trans h.output,Nat.le_trans h.size k.size,fun i hi hg => (k.block i (Nat.lt_of_lt_of_le hi h.size) hg).trans (h.block i hi hg)⟩
theorem Gr.of_below {g:Nat} {w w':World} (h:Below w.heap.size w w'):Gr g w w':=⟨h.os,h.tape,h.output,h.size,fun i hi _ => h.block i hi⟩
theorem Gr.set {g:Nat} {w w1:World} (h:Gr g w w1) (j:Nat) (v:Value):Gr g w (w1.setCell ⟨g,j,none⟩ v):=by
 have hb:Below 0 w1 (w1.setCell ⟨g,j,none⟩ v):=((Below.refl w1.heap.size w1).mono (Nat.zero_le _)).setCell (Nat.zero_le _) v
 refine ⟨hb.os.trans h.os,hb.tape.trans h.tape,hb.output.trans h.output,Nat.le_trans h.size hb.size,fun i hi hg => ?_⟩
 rw [Below.heap_setCell w1 ⟨g,j,none⟩ v i hg]
 exact h.block i hi hg
def Ends (ts:List S32):Prop:=∃ b e,ts=b ++ [e]∧e.f0=0
theorem Ends.tail {t:S32} {r:List S32} (h:Ends (t :: r)) (ht:t.f0 ≠ 0):Ends r:=by
 obtain ⟨b,e,h1,h2⟩:=h
 cases b with
 | nil => simp at h1;obtain ⟨rfl,_⟩:=h1;exact absurd h2 ht
 | cons c b => simp at h1;exact ⟨b,e,h1.2,h2⟩
theorem Ends.cons {ts:List S32} (h:Ends ts):∃ t r,ts=t :: r:=by
 obtain ⟨b,e,rfl,_⟩:=h
 cases b <;> exact ⟨_,_,rfl⟩
structure PS (w0:World) (g:Nat) (ts:List S32) (w:World):Prop where
 low:w0.heap.size ≤ g
 lt:g < w.heap.size
 bl:Below w0.heap.size w0 w
 blk:∃ A c,ts.length ≤ c∧k32.C w0 A ts.length ts∧w.heap[g]? = some (.cells #[.slice A ts.length c] 231 (0,0))
 ends:Ends ts
theorem PS.below {w0 w w':World} {g:Nat} {ts:List S32} (h:PS w0 g ts w) (hb:Below w.heap.size w w'):PS w0 g ts w':=by
 obtain ⟨h1,h2,h3,⟨A,c,h4,h5,h6⟩,h7⟩:=h
 exact ⟨h1,Nat.lt_of_lt_of_le h2 hb.size,below_step h3 (hb.mono (Nat.le_refl _)),⟨A,c,h4,h5,(hb.block g h2).trans h6⟩,h7⟩
def failedV:List PanicEntry:=[{ v:=.iface 227 (.agg #[]),recovered:=false }]
theorem fail_calls (g:Nat) (w:World):Calls Tryz.prog 264 #[.pointer (some ⟨g,0,none⟩)] w fun e w' => e = .panicked failedV∧w'=w:=by
 go_enter Tryz.func264,Tryz.ntmps264
 go_wp2
 exact ⟨rfl,rfl,rfl⟩
theorem addr0 (a:Addr):a.add 0=a:=by
 unfold Addr.add
 split <;> simp_all
theorem PS.slice {w0 w:World} {g:Nat} {t:S32} {r:List S32} (h:PS w0 g (t :: r) w):∃ ad c,r.length < c∧k32.C w0 (some ad) (r.length + 1) (t :: r)∧w.heap[g]? = some (.cells #[.slice (some ad) (r.length + 1) c] 231 (0,0)) ∧
  w.cell? ad=some (.int .i64 t.f0)∧w.cell? ⟨ad.block,ad.off + 1,none⟩=some (.string t.f1)∧w.cell? ⟨ad.block,ad.off + 2,none⟩=some (.int .i64 t.f2):=by
 obtain ⟨h1,h2,h3,⟨A,c,h4,h5,h6⟩,h7⟩:=h
 obtain ⟨ad,rfl,c0,c1,c2⟩:=at_T32 h5 0 (by omega) (by simp)
 simp only [rd_T32,List.getD_cons_zero,Int.toNat_zero,Nat.zero_mul,addr0] at c0 c1 c2
 refine ⟨ad,c,by simp at h4;omega,h5,h6,?_,?_,?_⟩
 ·exact pw_cell_below h3 c0
 ·exact pw_cell_below h3 c1
 ·exact pw_cell_below h3 c2
set_option maxRecDepth 100000 in
theorem peek_calls {w0 w:World} {g:Nat} {ts:List S32} (h:PS w0 g ts w):Calls Tryz.prog 327 #[.pointer (some ⟨g,0,none⟩)] w fun e w' => e = .returned (.string (Ps.pk ts))∧Below w.heap.size w w':=by
 obtain ⟨t,r,rfl⟩:=h.ends.cons
 obtain ⟨ad,c,hc,hC,hb,c0,c1,c2⟩:=h.slice
 have hg:=blk_cell hb 0
 simp only [List.getElem?_toArray,List.getElem?_cons_zero] at hg
 have hlt:=h.lt
 clear hb hC h
 by_cases k1:t.f0=1
 ·have b1:(t.f0 == 1)=true:=beq_iff_eq.mpr k1
  go_enter Tryz.func327,Tryz.ntmps327
  go_wp2
  go_ret
  refine ⟨by simp [Ps.pk,k1],?_⟩
  exact below_alloc (Below.refl _ _) _
 ·have b1:(t.f0 == 1)=false:=beq_eq_false_iff_ne.mpr k1
  by_cases k2:t.f0=4
  ·have b2:(t.f0 == 4)=true:=beq_iff_eq.mpr k2
   go_enter Tryz.func327,Tryz.ntmps327
   go_wp2
   go_ret
   refine ⟨by simp [Ps.pk,k2],?_⟩
   exact below_alloc (Below.refl _ _) _
  ·have b2:(t.f0 == 4)=false:=beq_eq_false_iff_ne.mpr k2
   go_enter Tryz.func327,Tryz.ntmps327
   go_wp2
   go_ret
   refine ⟨by simp [Ps.pk,k1,k2],?_⟩
   exact below_alloc (Below.refl _ _) _
set_option maxRecDepth 100000 in
theorem next_end {w0 w:World} {g:Nat} {t:S32} {r:List S32} (h:PS w0 g (t :: r) w) (k1:t.f0=0):Calls Tryz.prog 258 #[.pointer (some ⟨g,0,none⟩)] w fun e w' => e = .panicked failedV∧Below w.heap.size w w':=by
 obtain ⟨ad,c,hc,hC,hb,c0,c1,c2⟩:=h.slice
 have hg:=blk_cell hb 0
 simp only [List.getElem?_toArray,List.getElem?_cons_zero] at hg
 have hlt:=h.lt
 have hal:=World.block_lt_of_cell? w _ c0
 clear hb hC h
 have b1:(t.f0 == 0)=true:=beq_iff_eq.mpr k1
 go_enter Tryz.func258,Tryz.ntmps258
 go_wp2_with (first | (go_at_call 264;refine (fail_calls g _).mono ?_;rintro e w1 ⟨rfl,rfl⟩))
 exact ⟨rfl,rfl,below_alloc (below_alloc (Below.refl _ _) _) _⟩
theorem PS.put {w0 w:World} {g:Nat} {ts r:List S32} {A A':Option Addr} {n c c':Nat} (h:PS w0 g ts w) (hb:w.heap[g]? = some (.cells #[.slice A n c] 231 (0,0))) (hC:k32.C w0 A' r.length r) (hc:r.length ≤ c') (he:Ends r) :
  PS w0 g r (w.setCell ⟨g,0,none⟩ (.slice A' r.length c')) :=
 ⟨h.low,by have:=h.lt;have hs:=(((Below.refl w.heap.size w).mono (Nat.zero_le _)).setCell (B:=0) (p:=⟨g,0,none⟩) (Nat.zero_le _) (.slice A' r.length c')).size;omega,
  h.bl.setCell h.low _,⟨A',c',hc,hC,blk_put hb 0 _ rfl⟩,he⟩
theorem PS.size {w0 w:World} {g:Nat} {ts:List S32} (h:PS w0 g ts w):w0.heap.size ≤ w.heap.size:=h.bl.size
theorem alloc2 {w w':World} (h:Below w.heap.size w w') (o o':Obj):Below w.heap.size w ((w'.alloc o).alloc o'):=below_alloc (below_alloc h o) o'
set_option maxRecDepth 100000 in
theorem next_some {w0 w:World} {g:Nat} {t:S32} {r:List S32} (h:PS w0 g (t :: r) w) (k1:t.f0 ≠ 0):Calls Tryz.prog 258 #[.pointer (some ⟨g,0,none⟩)] w fun e w' => e = .returned (.agg #[.int .i64 t.f0,.string t.f1,.int .i64 t.f2])∧PS w0 g r w'∧Gr g w w':=by
 obtain ⟨ad,c,hc,hC,hb,c0,c1,c2⟩:=h.slice
 have hg:=blk_cell hb 0
 have hz:=blk_frozen hb 0
 simp only [List.getElem?_toArray,List.getElem?_cons_zero] at hg
 have hlt:=h.lt
 have hal:=World.block_lt_of_cell? w _ c0
 have hD:=Kd.C_drop (m:=1) hC (by simp) (show (t :: r).length ≤ c by simp;omega)
 simp only [List.drop_succ_cons,List.drop_zero,Option.map_some,Nat.one_mul] at hD
 have HB:=Aside0.mk hb
 have HD:=Aside0.mk hD
 clear hb hC hD
 have HH:=Aside0.mk h
 clear h
 have b1:(t.f0 == 0)=false:=beq_eq_false_iff_ne.mpr k1
 have fin:∀ A' c',k32.C w0 A' r.length r → r.length ≤ c' → ∀ o o',PS w0 g r (((w.setCell ⟨g,0,none⟩ (.slice A' r.length c')).alloc o).alloc o')∧Gr g w (((w.setCell ⟨g,0,none⟩ (.slice A' r.length c')).alloc o).alloc o'):=fun A' c' h1 h2 o o' =>
  ⟨(PS.put HH.out HB.out h1 h2 (HH.out.ends.tail k1)).below (alloc2 (Below.refl _ _) _ _),((Gr.refl g w).set 0 _).trans (Gr.of_below (alloc2 (Below.refl _ _) _ _))⟩
 have FIN:=Aside0.mk fin
 clear fin
 go_enter Tryz.func258,Tryz.ntmps258
 go_wp2
 ·subst h
  refine bodyPost_ret (v:=.agg #[.int .i64 t.f0,.string t.f1,.int .i64 t.f2]) ?_ rfl ⟨rfl,FIN.out _ _ ?_ ?_ _ _⟩
  ·simp [results,Tryz.results258,go_sem]
  ·have:=HD.out
   rwa [if_pos rfl] at this
  ·omega
 ·have hc1:=h
  refine bodyPost_ret (v:=.agg #[.int .i64 t.f0,.string t.f1,.int .i64 t.f2]) ?_ rfl ⟨rfl,FIN.out _ _ ?_ ?_ _ _⟩
  ·simp [results,Tryz.results258,go_sem]
  ·have:=HD.out
   rw [if_neg hc1] at this
   exact this
  ·omega
theorem next_calls {w0 w:World} {g:Nat} {ts:List S32} (h:PS w0 g ts w):Calls Tryz.prog 258 #[.pointer (some ⟨g,0,none⟩)] w fun e w' => Gr g w w'∧match Ps.nx ts with
  | none => e = .panicked failedV
  | some (t,r) => e = .returned (.agg #[.int .i64 t.f0,.string t.f1,.int .i64 t.f2])∧PS w0 g r w':=by
 obtain ⟨t,r,rfl⟩:=h.ends.cons
 by_cases k:t.f0=0
 ·refine (next_end h k).mono ?_
  rintro e w' ⟨rfl,hb⟩
  exact ⟨Gr.of_below hb,by simp [Ps.nx,k]⟩
 ·refine (next_some h k).mono ?_
  rintro e w' ⟨rfl,hp,hg⟩
  exact ⟨hg,by simp [Ps.nx,k,hp]⟩
end Go.Proofs.YtcgdncpioafbdaaGreatDoor.Q
namespace Go.Proofs.YtcgdncpioafbdaaGreatDoor.Q
open Go Go.RowKit Go.Proofs.YtcgdncpioafbdaaGreatDoorW.PrintWords
theorem PS.alloc {w0 w:World} {g:Nat} {ts:List S32} (h:PS w0 g ts w) (o:Obj):PS w0 g ts (w.alloc o):=h.below (below_alloc (Below.refl _ _) o)
theorem PS.drewN {w0 w:World} {g:Nat} {ts:List S32} (h:PS w0 g ts w) (n:Nat):PS w0 g ts (w.drewN n):=h.below (pw_below_drewN (Below.refl _ _) n)
theorem Gr.alloc {g:Nat} {w w1:World} (h:Gr g w w1) (o:Obj):Gr g w (w1.alloc o):=h.trans (Gr.of_below (below_alloc (Below.refl _ _) o))
theorem Gr.drewN {g:Nat} {w w1:World} (h:Gr g w w1) (n:Nat):Gr g w (w1.drewN n):=h.trans (Gr.of_below (pw_below_drewN (Below.refl _ _) n))
theorem Gr.step {g:Nat} {w w1 w2:World} (h:Gr g w w1) (hb:Below w1.heap.size w1 w2):Gr g w w2:=h.trans (Gr.of_below hb)
theorem Gr.cell {g:Nat} {w w1:World} (h:Gr g w w1) {p:Addr} (hp:p.block < w.heap.size) (hg:p.block ≠ g):w1.cell? p=w.cell? p:=by simp [World.cell?,h.block _ hp hg]
theorem Gr.F {α:Type} {d:Kd α} {g:Nat} {w w1:World} {ok:Nat → Prop} {A:Option Addr} {n:Nat} {xs:List α} (h:Gr g w w1) (hf:Kd.F d w ok A n xs) (hok:∀ k,ok k → k ≠ g):Kd.F d w1 ok A n xs:=Kd.F_step hf (fun k hk hlt => h.block k hlt (hok k hk))
def Out {α:Type} (w0:World) (g:Nat) (V:World → α → Value → Prop) (w:World) (m:Option (α × List S32)) (e:Ending) (w':World):Prop :=
 Gr g w w'∧match m with
  | none => e = .panicked failedV
  | some (x,r) => ∃ v,e = .returned v∧V w' x v∧PS w0 g r w'
theorem Out.none {α:Type} {w0 w w':World} {g:Nat} {V:World → α → Value → Prop} {m:Option (α × List S32)} {e:Ending} (h:Out w0 g V w m e w') (hm:m=none):Gr g w w'∧e = .panicked failedV:=by subst hm;exact h
theorem Out.some {α:Type} {w0 w w':World} {g:Nat} {V:World → α → Value → Prop} {m:Option (α × List S32)} {e:Ending} {x:α} {r:List S32} (h:Out w0 g V w m e w') (hm:m=some (x,r)):Gr g w w'∧∃ v,e = .returned v∧V w' x v∧PS w0 g r w':=by subst hm;exact h
theorem Out.of_none {α:Type} {w0 w w':World} {g:Nat} {V:World → α → Value → Prop} {m:Option (α × List S32)} (hm:m=Option.none) (h:Gr g w w'):Out w0 g V w m (.panicked failedV) w':=by subst hm;exact ⟨h,rfl⟩
theorem Out.of_some {α:Type} {w0 w w':World} {g:Nat} {V:World → α → Value → Prop} {m:Option (α × List S32)} {x:α} {r:List S32} {v:Value} (hm:m=Option.some (x,r)) (h:Gr g w w') (hv:V w' x v) (hp:PS w0 g r w'):Out w0 g V w m (.returned v) w':=by subst hm;exact ⟨h,v,rfl,hv,hp⟩
def Vbool:World → Bool → Value → Prop:=fun _ b v => v = .bool b
def Vstr:World → ByteArray → Value → Prop:=fun _ s v => v = .string s
def Vtok:World → S32 → Value → Prop:=fun _ t v => v = .agg #[.int .i64 t.f0,.string t.f1,.int .i64 t.f2]
theorem next_out {w0 w:World} {g:Nat} {ts:List S32} (h:PS w0 g ts w):Calls Tryz.prog 258 #[.pointer (some ⟨g,0,none⟩)] w (Out w0 g Vtok w (Ps.nx ts)):=by
 refine (next_calls h).mono ?_
 rintro e w' ⟨hg,hm⟩
 cases hn:Ps.nx ts with
 | none => rw [hn] at hm;exact ⟨hg,hm⟩
 | some p => rw [hn] at hm;exact ⟨hg,_,hm.1,rfl,hm.2⟩
set_option maxRecDepth 100000 in
theorem take_out {w0 w:World} {g:Nat} {ts:List S32} (h:PS w0 g ts w) (s:ByteArray):Calls Tryz.prog 271 #[.pointer (some ⟨g,0,none⟩),.string s] w (Out w0 g Vbool w (Ps.tk s ts)):=by
 have HP:=Aside0.mk h
 clear h
 by_cases c:(Ps.pk ts).toList=s.toList
 ·have c0:((Ps.pk ts).toList == s.toList)=true:=beq_iff_eq.mpr c
  have c1:((Ps.pk ts).toList != s.toList)=false:=bne_eq_false_iff_eq.mpr c
  have hm:Ps.tk s ts=(Ps.nx ts).map fun p => (true,p.2):=by unfold Ps.tk;rw [if_pos c]
  clear c
  have HM:=Aside0.mk hm
  clear hm
  cases hn:Ps.nx ts with
  | none =>
   have HN:=Aside0.mk hn
   clear hn
   go_enter Tryz.func271,Tryz.ntmps271
   go_wp2_with (first | (go_at_call 327;refine (peek_calls HP.out).mono ?_;rintro e w1 ⟨rfl,hb⟩;have HB:=Aside0.mk hb;clear hb) | (go_at_call 258;refine (next_out (HP.out.below HB.out)).mono ?_;intro e w2 ho;obtain ⟨hg,rfl⟩:=ho.none HN.out;have HG:=Aside0.mk hg;clear hg ho))
   exact ⟨rfl,Out.of_none (by rw [HM.out,HN.out];rfl) ((Gr.of_below HB.out).trans HG.out)⟩
  | some p =>
   obtain ⟨t,r⟩:=p
   have HN:=Aside0.mk hn
   clear hn
   go_enter Tryz.func271,Tryz.ntmps271
   go_wp2_with (first | (go_at_call 327;refine (peek_calls HP.out).mono ?_;rintro e w1 ⟨rfl,hb⟩;have HB:=Aside0.mk hb;clear hb) | (go_at_call 258;refine (next_out (HP.out.below HB.out)).mono ?_;intro e w2 ho;obtain ⟨hg,v,rfl,hv,hp⟩:=ho.some HN.out;have HG:=Aside0.mk hg;have HQ:=Aside0.mk hp;clear hg ho hp hv))
   go_ret
   exact Out.of_some (by rw [HM.out,HN.out];rfl) ((Gr.of_below HB.out).trans HG.out) rfl HQ.out
 ·have c0:((Ps.pk ts).toList == s.toList)=false:=beq_eq_false_iff_ne.mpr c
  have c1:((Ps.pk ts).toList != s.toList)=true:=bne_iff_ne.mpr c
  have hm:Ps.tk s ts=some (false,ts):=by unfold Ps.tk;rw [if_neg c]
  clear c
  have HM:=Aside0.mk hm
  clear hm
  go_enter Tryz.func271,Tryz.ntmps271
  go_wp2_with (first | (go_at_call 327;refine (peek_calls HP.out).mono ?_;rintro e w1 ⟨rfl,hb⟩;have HB:=Aside0.mk hb;clear hb))
  go_ret
  exact Out.of_some HM.out (Gr.of_below HB.out) rfl (HP.out.below HB.out)
def Vunit:World → Unit → Value → Prop:=fun _ _ v => v = .tuple #[]
theorem ms_true {s:ByteArray} {l:List ByteArray} {ts r:List S32} (h:Ps.tk s ts=some (true,r)):Ps.ms (s :: l) ts=Ps.ms l r:=by simp only [Ps.ms,h]
theorem ms_false {s:ByteArray} {l:List ByteArray} {ts r:List S32} (h:Ps.tk s ts=some (false,r)):Ps.ms (s :: l) ts=none:=by simp only [Ps.ms,h]
theorem ms_none {s:ByteArray} {l:List ByteArray} {ts:List S32} (h:Ps.tk s ts=none):Ps.ms (s :: l) ts=none:=by simp only [Ps.ms,h]
theorem wrapS {i n:Nat} (h:i < n) (hn:n ≤ 9223372036854775807):wrap64 ((i:Int) + 1)=((i + 1:Nat):Int):=by unfold wrap64;omega
set_option maxHeartbeats 1000000 in
set_option maxRecDepth 100000 in
theorem must_out {w0 w:World} {g:Nat} {ts:List S32} (h:PS w0 g ts w) {l:List ByteArray} {A:Option Addr} {c:Nat} (hF:Kd.F Kd.string w (fun k => k ≠ g) A l.length l) :
  Calls Tryz.prog 259 #[.pointer (some ⟨g,0,none⟩),.slice A l.length c] w (Out w0 g Vunit w ((Ps.ms l ts).map fun r => ((),r))):=by
 have HP:=Aside0.mk h
 have HF:=Aside0.mk hF
 have HX:=Aside0.mk (Kd.F_max hF)
 clear h hF
 go_enter Tryz.func259,Tryz.ntmps259
 go_wp2
 go_loopg [8] l.length (fun kq v8 w' => ∃ (i:Nat) (ts':List S32),v8 = .int .i64 i∧Aside0 (kq=l.length - i)∧Aside0 (i ≤ l.length)∧Aside0 (Ps.ms (l.drop i) ts'=Ps.ms l ts)∧Aside0 (PS w0 g ts' w')∧Aside0 (Gr g w w')∧Aside0 (Kd.F Kd.string w' (fun k => k ≠ g) A l.length l))
 case atStart => exact ⟨0,ts,rfl,⟨by omega⟩,⟨by omega⟩,⟨rfl⟩,HP,⟨Gr.refl _ _⟩,HF⟩
 case round =>
  clear HP HF
  obtain ⟨i,ts',rfl,HK,HI,HM,HP,HG,HF⟩:=hrel
  by_cases hi:i < l.length
  ·have c0:decide ((i:Int) < (l.length:Int))=true:=decide_eq_true (by omega)
   have c1:decide (i < l.length)=true:=decide_eq_true hi
   obtain ⟨ad,e1,hx⟩:=Kd.at_string (Kd.F_now HF.out) (i:Int) (by omega) (by omega)
   cases e1
   simp only [Int.toNat_natCast] at hx
   have hd:l.drop i=(rdOf ByteArray.empty l (i:Int)) :: l.drop (i + 1):=by
    rw [List.drop_eq_getElem_cons hi]
    congr 1
    simp [rdOf,List.getD_eq_getElem?_getD,hi]
   have HD:=Aside0.mk hd
   have HI2:=Aside0.mk hi
   obtain ⟨s,hs⟩:∃ s,rdOf ByteArray.empty l (i:Int)=s:=⟨_,rfl⟩
   rw [hs] at hx
   clear hd
   have HS:=Aside0.mk hs
   clear hs
   have HF2:=fun w2 (hg:Gr g wr w2) => hg.F HF.out (fun _ h => h)
   have HF3:=Aside0.mk HF2
   clear HF2
   cases ht:Ps.tk s ts' with
   | none =>
    have HT:=Aside0.mk ht
    clear ht
    go_wp2_with (first | (go_at_call 271;refine (take_out HP.out s).mono ?_;intro e w2 ho;obtain ⟨hg,rfl⟩:=ho.none HT.out;have HQ:=Aside0.mk hg;clear hg ho))
    exact ⟨rfl,Out.of_none (by rw [← HM.out,HD.out,HS.out,ms_none HT.out];rfl) (HG.out.trans HQ.out)⟩
   | some p =>
    obtain ⟨b,r⟩:=p
    have HT:=Aside0.mk ht
    clear ht
    cases b with
    | false =>
     go_wp2_with (first | (go_at_call 271;refine (take_out HP.out s).mono ?_;intro e w2 ho;obtain ⟨hg,v,rfl,rfl,hp⟩:=ho.some HT.out;have HQ:=Aside0.mk hg;clear hg ho hp) | (go_at_call 264;refine (fail_calls g _).mono ?_;rintro e w3 ⟨rfl,rfl⟩))
     exact ⟨rfl,Out.of_none (by rw [← HM.out,HD.out,HS.out,ms_false HT.out];rfl) (HG.out.trans HQ.out)⟩
    | true =>
     go_wp2_with (first | (go_at_call 271;refine (take_out HP.out s).mono ?_;intro e w2 ho;obtain ⟨hg,v,rfl,rfl,hp⟩:=ho.some HT.out;have HQ:=Aside0.mk hg;have HR:=Aside0.mk hp;clear hg ho hp))
     go_roundg (l.length - (i + 1))
     case measure => have:=HK.out;omega
     case rel => exact ⟨i + 1,r,by rw [wrapS hi HX.out],⟨rfl⟩,⟨by omega⟩,⟨by rw [← HM.out,HD.out,HS.out,ms_true HT.out]⟩,HR,⟨HG.out.trans HQ.out⟩,⟨HF3.out _ HQ.out⟩⟩
  ·have c0:decide ((i:Int) < (l.length:Int))=false:=decide_eq_false (by omega)
   have c1:decide (i < l.length)=false:=decide_eq_false hi
   have hd:l.drop i=[]:=List.drop_of_length_le (by omega)
   have HD:=Aside0.mk hd
   clear hi hd
   go_wp2
   refine bodyPost_ret (v:=.tuple #[]) ?_ rfl ?_
   ·simp [results,Tryz.results259,go_sem]
   ·refine Out.of_some (by rw [← HM.out,HD.out];rfl) HG.out rfl HP.out
theorem ite_beq {a b:List UInt8} {x:Option Bool} {y:Bool} (h:x=some y):(if a=b then some true else x)=some ((a == b) || y):=by
 by_cases c:a=b
 ·rw [if_pos c,beq_iff_eq.mpr c];rfl
 ·rw [if_neg c,beq_eq_false_iff_ne.mpr c,h];rfl
theorem reserved_is (s:ByteArray):parse_reserved.f s=some (Ps.reserved s):=by
 unfold parse_reserved.f Ps.reserved Ps.resL
 simp only [List.contains_cons,List.contains_nil]
 repeat refine ite_beq ?_
 rfl
theorem binds_is (s:ByteArray):parse_binds.f 3 s=some (Ps.binds s):=by
 by_cases h0:s.toList=[111,114]
 ·unfold parse_binds.f Ps.binds
  simp only [parse_binds.j0,parse_binds.j1]
  rw [h0]
  decide
 by_cases h1:s.toList=[97,110,100]
 ·unfold parse_binds.f Ps.binds
  simp only [parse_binds.j0,parse_binds.j1]
  rw [h1]
  decide
 by_cases h2:s.toList=[61]
 ·unfold parse_binds.f Ps.binds
  simp only [parse_binds.j0,parse_binds.j1]
  rw [h2]
  decide
 by_cases h3:s.toList=[60,62]
 ·unfold parse_binds.f Ps.binds
  simp only [parse_binds.j0,parse_binds.j1]
  rw [h3]
  decide
 by_cases h4:s.toList=[60]
 ·unfold parse_binds.f Ps.binds
  simp only [parse_binds.j0,parse_binds.j1]
  rw [h4]
  decide
 by_cases h5:s.toList=[60,61]
 ·unfold parse_binds.f Ps.binds
  simp only [parse_binds.j0,parse_binds.j1]
  rw [h5]
  decide
 by_cases h6:s.toList=[62]
 ·unfold parse_binds.f Ps.binds
  simp only [parse_binds.j0,parse_binds.j1]
  rw [h6]
  decide
 by_cases h7:s.toList=[62,61]
 ·unfold parse_binds.f Ps.binds
  simp only [parse_binds.j0,parse_binds.j1]
  rw [h7]
  decide
 by_cases h8:s.toList=[105,115]
 ·unfold parse_binds.f Ps.binds
  simp only [parse_binds.j0,parse_binds.j1]
  rw [h8]
  decide
 by_cases h9:s.toList=[43]
 ·unfold parse_binds.f Ps.binds
  simp only [parse_binds.j0,parse_binds.j1]
  rw [h9]
  decide
 by_cases h10:s.toList=[45]
 ·unfold parse_binds.f Ps.binds
  simp only [parse_binds.j0,parse_binds.j1]
  rw [h10]
  decide
 by_cases h11:s.toList=[124,124]
 ·unfold parse_binds.f Ps.binds
  simp only [parse_binds.j0,parse_binds.j1]
  rw [h11]
  decide
 by_cases h12:s.toList=[42]
 ·unfold parse_binds.f Ps.binds
  simp only [parse_binds.j0,parse_binds.j1]
  rw [h12]
  decide
 by_cases h13:s.toList=[47]
 ·unfold parse_binds.f Ps.binds
  simp only [parse_binds.j0,parse_binds.j1]
  rw [h13]
  decide
 by_cases h14:s.toList=[37]
 ·unfold parse_binds.f Ps.binds
  simp only [parse_binds.j0,parse_binds.j1]
  rw [h14]
  decide
 unfold parse_binds.f Ps.binds
 simp [parse_binds.j0,parse_binds.j1,h0,h1,h2,h3,h4,h5,h6,h7,h8,h9,h10,h11,h12,h13,h14]
set_option maxHeartbeats 1000000 in
set_option maxRecDepth 100000 in
theorem name_out {w0 w:World} {g:Nat} {ts:List S32} (h:PS w0 g ts w):Calls Tryz.prog 260 #[.pointer (some ⟨g,0,none⟩)] w (Out w0 g Vstr w (Ps.nm ts)):=by
 have HP:=Aside0.mk h
 clear h
 cases hn:Ps.nx ts with
 | none =>
  have HN:=Aside0.mk hn
  have HM:=Aside0.mk (show Ps.nm ts=none by unfold Ps.nm;rw [hn])
  clear hn
  go_enter Tryz.func260,Tryz.ntmps260
  go_wp2_with (first | (go_at_call 258;refine (next_out HP.out).mono ?_;intro e w2 ho;obtain ⟨hg,rfl⟩:=ho.none HN.out;have HG:=Aside0.mk hg;clear hg ho))
  exact ⟨rfl,Out.of_none HM.out HG.out⟩
 | some p =>
  obtain ⟨t,r⟩:=p
  have HN:=Aside0.mk hn
  have hm:Ps.nm ts=if t.f0=1 then if Ps.reserved t.f1=true then none else some (t.f1,r) else none:=by unfold Ps.nm;rw [hn]
  clear hn
  by_cases k1:t.f0=1
  ·rw [if_pos k1] at hm
   have b1:(t.f0 != 1)=false:=bne_eq_false_iff_eq.mpr k1
   have RS:=Aside0.mk (reserved_is t.f1)
   cases hr:Ps.reserved t.f1 with
   | true =>
    rw [hr] at hm RS
    rw [if_pos rfl] at hm
    have HM:=Aside0.mk hm
    clear hm hr
    go_enter Tryz.func260,Tryz.ntmps260
    go_wp2_with (first | (go_at_call 258;refine (next_out HP.out).mono ?_;intro e w2 ho;obtain ⟨hg,v,rfl,rfl,hp⟩:=ho.some HN.out;have HG:=Aside0.mk hg;have HQ:=Aside0.mk hp;clear hg ho hp) | (go_at_call 324;refine (parse_reserved.calls _ _ _ RS.out).mono ?_;rintro e w3 ⟨rfl,⟨n,rfl⟩⟩) | (go_at_call 264;refine (fail_calls g _).mono ?_;rintro e w3 ⟨rfl,rfl⟩))
    exact ⟨rfl,Out.of_none HM.out ((HG.out.alloc _).drewN _)⟩
   | false =>
    rw [hr] at hm RS
    rw [if_neg (by simp)] at hm
    have HM:=Aside0.mk hm
    clear hm hr
    go_enter Tryz.func260,Tryz.ntmps260
    go_wp2_with (first | (go_at_call 258;refine (next_out HP.out).mono ?_;intro e w2 ho;obtain ⟨hg,v,rfl,rfl,hp⟩:=ho.some HN.out;have HG:=Aside0.mk hg;have HQ:=Aside0.mk hp;clear hg ho hp) | (go_at_call 324;refine (parse_reserved.calls _ _ _ RS.out).mono ?_;rintro e w3 ⟨rfl,⟨n,rfl⟩⟩))
    go_ret
    exact Out.of_some HM.out ((HG.out.alloc _).drewN _) rfl ((HQ.out.alloc _).drewN _)
  ·rw [if_neg k1] at hm
   have b1:(t.f0 != 1)=true:=bne_iff_ne.mpr k1
   have HM:=Aside0.mk hm
   clear hm
   go_enter Tryz.func260,Tryz.ntmps260
   go_wp2_with (first | (go_at_call 258;refine (next_out HP.out).mono ?_;intro e w2 ho;obtain ⟨hg,v,rfl,rfl,hp⟩:=ho.some HN.out;have HG:=Aside0.mk hg;have HQ:=Aside0.mk hp;clear hg ho hp) | (go_at_call 264;refine (fail_calls g _).mono ?_;rintro e w3 ⟨rfl,rfl⟩))
   exact ⟨rfl,Out.of_none HM.out (HG.out.alloc _)⟩
end Go.Proofs.YtcgdncpioafbdaaGreatDoor.Q
namespace Go.Proofs.YtcgdncpioafbdaaGreatDoor.Q
open Go
theorem wNot:Ps.sNot.toList=[110,111,116]:=(Lib.toList_data _).trans rfl
theorem wIs:Ps.sIs.toList=[105,115]:=(Lib.toList_data _).trans rfl
theorem wNull:Ps.sNull.toList=[110,117,108,108]:=(Lib.toList_data _).trans rfl
theorem wMinus:Ps.sMinus.toList=[45]:=(Lib.toList_data _).trans rfl
theorem wOpen:Ps.sOpen.toList=[40]:=(Lib.toList_data _).trans rfl
theorem wCount:Ps.sCount.toList=[99,111,117,110,116]:=(Lib.toList_data _).trans rfl
theorem wSum:Ps.sSum.toList=[115,117,109]:=(Lib.toList_data _).trans rfl
theorem wMin:Ps.sMin.toList=[109,105,110]:=(Lib.toList_data _).trans rfl
theorem wMax:Ps.sMax.toList=[109,97,120]:=(Lib.toList_data _).trans rfl
theorem wCreate:Ps.sCreate.toList=[99,114,101,97,116,101]:=(Lib.toList_data _).trans rfl
theorem wDrop:Ps.sDrop.toList=[100,114,111,112]:=(Lib.toList_data _).trans rfl
theorem wInsert:Ps.sInsert.toList=[105,110,115,101,114,116]:=(Lib.toList_data _).trans rfl
theorem wSelect:Ps.sSelect.toList=[115,101,108,101,99,116]:=(Lib.toList_data _).trans rfl
theorem wUpdate:Ps.sUpdate.toList=[117,112,100,97,116,101]:=(Lib.toList_data _).trans rfl
theorem wDelete:Ps.sDelete.toList=[100,101,108,101,116,101]:=(Lib.toList_data _).trans rfl
end Go.Proofs.YtcgdncpioafbdaaGreatDoor.Q
namespace Go.Proofs.YtcgdncpioafbdaaGreatDoor.Q
open Go Go.RowKit Go.Proofs.YtcgdncpioafbdaaGreatDoorW.PrintWords
def cells43 (x:S43) (A:Option Addr) (c:Nat):List Value:=[.string x.f0,.int .i64 x.f1.f0,.int .i64 x.f1.f1,.string x.f1.f2,.string x.f2,.slice A x.f3.length c]
def Vex (B:Nat):World → S43 → Value → Prop:=fun w x v => ∃ A c,v = .agg (cells43 x A c).toArray∧x.f3.length ≤ c∧Kd.F k43 w (fun k => B ≤ k) A x.f3.length x.f3
theorem FK43 {w:World} {ok:Nat → Prop} {x:S43} {A:Option Addr} {c:Nat} (h:x.f3.length ≤ c) (hF:Kd.F k43 w ok A x.f3.length x.f3):Kd.FK k43 w ok x (cells43 x A c):=k43_mkF w ok x h hF
theorem F_of_cells {α:Type} {d:Kd α} {w:World} {ok:Nat → Prop} {g e:Nat} {fr:Nat × Nat} {xs:List α} {css:List (List Value)} (hb:w.heap[g]? = some (.cells css.flatten.toArray e fr)) (hfr:fr=(0,0)) (hg:ok g) (hl:css.length=xs.length) (hn:xs.length ≤ 1000)
  (hx:∀ (j:Nat) (x:α) (c:List Value),xs[j]? = some x → css[j]? = some c → Kd.FK d w ok x c) (hs:∀ (j i:Nat),(i < d.sz) → ∀ c:List Value,css[j]? = some c → css.flatten[j * d.sz + i]? = c[i]?):Kd.F d w ok (some ⟨g,0,none⟩) xs.length xs:=by
 subst hfr
 intro W' hW
 refine ⟨rfl,by omega,fun _ => ⟨_,rfl,fun j p hj => ?_⟩⟩
 have hjl:j < css.length:=by have:=(List.getElem?_eq_some_iff.1 hj).1;omega
 have hc:=List.getElem?_eq_getElem hjl
 have hK:=hx j p _ hj hc
 have hlen:(css[j]).length=d.sz:=d.K_len (Kd.FK_now hK)
 refine ⟨css[j],hlen,hK W' hW,fun i u hu => ?_⟩
 have hi:i < d.sz:=by have:=(List.getElem?_eq_some_iff.1 hu).1;omega
 rw [add_plain]
 have hb':W'.heap[g]? = some (.cells css.flatten.toArray e (0,0)):=(hW g hg (blk_lt hb)).trans hb
 rw [blk_cell hb',List.getElem?_toArray,hs j i hi _ hc]
 exact hu
theorem F_one {w:World} {ok:Nat → Prop} {g:Nat} {x:S43} {A:Option Addr} {c:Nat} (hb:w.heap[g]? = some (.cells (cells43 x A c).toArray 43 (0,0))) (hg:ok g) (hc:x.f3.length ≤ c) (hF:Kd.F k43 w ok A x.f3.length x.f3):Kd.F k43 w ok (some ⟨g,0,none⟩) [x].length [x]:=by
 refine F_of_cells (css:=[cells43 x A c]) (fr:=(0,0)) (by simpa using hb) rfl hg rfl (by simp) ?_ ?_
 ·intro j y d hy hd
  match j,hy,hd with
  | 0,hy,hd => simp at hy hd;subst hy;subst hd;exact FK43 hc hF
 ·intro j i hi d hd
  match j,hd with
  | 0,hd => simp at hd;subst hd;simp
theorem F_two {w:World} {ok:Nat → Prop} {g:Nat} {x y:S43} {A A':Option Addr} {c c':Nat} (hb:w.heap[g]? = some (.cells (cells43 x A c ++ cells43 y A' c').toArray 43 (0,0))) (hg:ok g) (hc:x.f3.length ≤ c) (hF:Kd.F k43 w ok A x.f3.length x.f3) (hc':y.f3.length ≤ c') (hF':Kd.F k43 w ok A' y.f3.length y.f3):Kd.F k43 w ok (some ⟨g,0,none⟩) [x,y].length [x,y]:=by
 refine F_of_cells (css:=[cells43 x A c,cells43 y A' c']) (fr:=(0,0)) (by simpa using hb) rfl hg rfl (by simp) ?_ ?_
 ·intro j z d hz hd
  match j,hz,hd with
  | 0,hz,hd => simp at hz hd;subst hz;subst hd;exact FK43 hc hF
  | 1,hz,hd => simp at hz hd;subst hz;subst hd;exact FK43 hc' hF'
 ·intro j i hi d hd
  have h6:k43.sz=6:=rfl
  rw [h6] at hi ⊢
  match j,hd with
  | 0,hd =>
   simp at hd;subst hd
   simp only [List.flatten_cons,List.flatten_nil,List.append_nil,Nat.zero_mul,Nat.zero_add]
   rw [List.getElem?_append_left (by simpa [cells43] using hi)]
  | 1,hd =>
   simp at hd;subst hd
   simp only [List.flatten_cons,List.flatten_nil,List.append_nil,Nat.one_mul]
   rw [List.getElem?_append_right (by simp [cells43])]
   simp [cells43]
theorem op_calls (s:ByteArray) (A:Option Addr) (n c:Nat) (w:World):Calls Tryz.prog 369 #[.string s,.slice A n c] w fun e w' => e = .returned (.agg #[.string s,.int .i64 0,.int .i64 0,.string ⟨#[]⟩,.string ⟨#[]⟩,.slice A n c])∧∃ o,w'=w.alloc o:=by
 go_enter Tryz.func369,Tryz.ntmps369
 go_wp2
 refine bodyPost_ret (v:=.agg #[.string s,.int .i64 0,.int .i64 0,.string ⟨#[]⟩,.string ⟨#[]⟩,.slice A n c]) ?_ rfl ⟨rfl,_,rfl⟩
 simp [results,Tryz.results369,go_sem]
theorem val_calls (k n:Int) (s:ByteArray) (w:World):Calls Tryz.prog 370 #[.agg #[.int .i64 k,.int .i64 n,.string s]] w fun e w' => e = .returned (.agg #[.string Ps.sVal,.int .i64 k,.int .i64 n,.string s,.string ⟨#[]⟩,.slice none 0 0])∧∃ o o',w'=(w.alloc o).alloc o':=by
 go_enter Tryz.func370,Tryz.ntmps370
 go_wp2
 refine bodyPost_ret (v:=.agg #[.string Ps.sVal,.int .i64 k,.int .i64 n,.string s,.string ⟨#[]⟩,.slice none 0 0]) ?_ rfl ⟨rfl,_,_,rfl⟩
 simp [results,Tryz.results370,go_sem]
theorem new_blk {W:World} {b:Nat} (o:Obj) (h:W.heap.size=b):(W.alloc o).heap[b]? = some o:=by subst h;show (W.heap.push o)[W.heap.size]? = some o;simp
theorem blk_put6 {w:World} {g:Nat} {a0 a1 a2 a3 a4 a5 v0 v1 v2 v3 v4 v5:Value} (h:w.heap[g]? = some (.cells #[a0,a1,a2,a3,a4,a5] 43 (0,0))) :
  ((((((w.setCell ⟨g,0,none⟩ v0).setCell ⟨g,1,none⟩ v1).setCell ⟨g,2,none⟩ v2).setCell ⟨g,3,none⟩ v3).setCell ⟨g,4,none⟩ v4).setCell ⟨g,5,none⟩ v5).heap[g]? = some (.cells #[v0,v1,v2,v3,v4,v5] 43 (0,0)) :=
 blk_put (blk_put (blk_put (blk_put (blk_put (blk_put h 0 v0 rfl) 1 v1 rfl) 2 v2 rfl) 3 v3 rfl) 4 v4 rfl) 5 v5 rfl
theorem flat_one {α β:Type} (f:α → β) (l:List α):(l.map fun s => [f s]).flatten=l.map f:=by
 induction l with
 | nil => rfl
 | cons a l ih => simp [List.flatten_cons,ih]
theorem F_strs {w:World} {ok:Nat → Prop} {g:Nat} {l:List ByteArray} (hb:w.heap[g]? = some (.cells (l.map Value.string).toArray 9 (0,0))) (hg:ok g) (hn:l.length ≤ 1000):Kd.F Kd.string w ok (some ⟨g,0,none⟩) l.length l:=by
 refine F_of_cells (css:=l.map fun s => [Value.string s]) (e:=9) (fr:=(0,0)) (by rw [flat_one];exact hb) rfl hg (by simp) hn ?_ ?_
 ·intro j x c hx hc
  simp only [List.getElem?_map,hx,Option.map_some,Option.some.injEq] at hc
  subst hc
  exact fun W' _ => rfl
 ·intro j i hi c hc
  have h1:Kd.string.sz=1:=rfl
  rw [h1] at hi ⊢
  obtain rfl:i=0:=by omega
  rw [flat_one]
  simp only [List.getElem?_map] at hc ⊢
  cases hl:l[j]? with
  | none => rw [hl] at hc;cases hc
  | some y => rw [hl] at hc;cases hc;simp [hl]
theorem must1 {w0 w:World} {g B:Nat} {ts:List S32} (h:PS w0 g ts w) (hB:w.heap.size=B) (a:ByteArray) (c:Nat):Calls Tryz.prog 259 #[.pointer (some ⟨g,0,none⟩),.slice (some ⟨B,0,none⟩) 1 c] (w.alloc (.cells #[.string a] 9)) (Out w0 g Vunit w ((Ps.ms [a] ts).map fun r => ((),r))):=by
 subst hB
 have hF:Kd.F Kd.string (w.alloc (.cells #[.string a] 9)) (fun k => k ≠ g) (some ⟨w.heap.size,0,none⟩) [a].length [a]:=F_strs (new_blk _ rfl) (by have:=h.lt;omega) (by simp)
 refine (must_out (h.alloc _) (c:=c) hF).mono ?_
 rintro e w' ⟨hg,hm⟩
 exact ⟨((Gr.refl g w).alloc _).trans hg,hm⟩
theorem must3 {w0 w:World} {g B:Nat} {ts:List S32} (h:PS w0 g ts w) (hB:w.heap.size=B) (a b d:ByteArray) (c:Nat):Calls Tryz.prog 259 #[.pointer (some ⟨g,0,none⟩),.slice (some ⟨B,0,none⟩) 3 c] (w.alloc (.cells #[.string a,.string b,.string d] 9)) (Out w0 g Vunit w ((Ps.ms [a,b,d] ts).map fun r => ((),r))):=by
 subst hB
 have hF:Kd.F Kd.string (w.alloc (.cells #[.string a,.string b,.string d] 9)) (fun k => k ≠ g) (some ⟨w.heap.size,0,none⟩) [a,b,d].length [a,b,d]:=F_strs (new_blk _ rfl) (by have:=h.lt;omega) (by simp)
 refine (must_out (h.alloc _) (c:=c) hF).mono ?_
 rintro e w' ⟨hg,hm⟩
 exact ⟨((Gr.refl g w).alloc _).trans hg,hm⟩
theorem msU_none {l:List ByteArray} {ts:List S32} (h:Ps.ms l ts=none):((Ps.ms l ts).map fun r => ((),r))=none:=by rw [h];rfl
theorem msU_some {l:List ByteArray} {ts r:List S32} (h:Ps.ms l ts=some r):((Ps.ms l ts).map fun r => ((),r))=some ((),r):=by rw [h];rfl
theorem binds_range (s:ByteArray):0 ≤ Ps.binds s∧Ps.binds s ≤ 6:=by
 unfold Ps.binds
 repeat' split
 all_goals omega
theorem blkc_alloc {w:World} {g:Nat} {cs:Array Value} {t:TypeId} {v:Value} {o:Obj} (h:w.heap[g]? = some (.cells cs t (0,0))) (i:Nat) (hv:cs[i]? = some v):(w.alloc o).cell? ⟨g,i,none⟩=some v:=(blk_cell (blk_alloc h o) i).trans hv
open Go.Proofs.YtcgdncpioafbdaaGreatDoorW.PrintLast in
theorem goesP_ {P : Program} {ops : Array Oper} {Q : Exit → Act → World → Prop} {oi : Oper} {N : Option Tmp} {a : Act} {w : World} {K : Act → World → Prop} {f : FuncId} {fn : Func} {oa : Array Operand} {ts : Array TypeId} (hf : P.funcs[f]? = some fn) (hname : (fn.name == "runtime.NumGoroutine") = false) (hb : fn.body.isSome = true) (args : Array Value)
  (hw:Region.wanted oi (yielded ops a.tmps)=true) (hop:oi.op = .call { callee:=.value (.func f),args:=oa,argTypes:=ts }) (hargs:oa.map a.eval=args) {ch:List PanicEntry}
  (h:Calls P f args w fun e w' => e = .panicked ch∧Q (.panic ch) a w'):if Region.wanted oi (yielded ops a.tmps)=true then Oper.wp P oi a w K Q else K (a.put N undef) w:=by
 rw [if_pos hw]
 have he:=enters_ hf hname hb args w
 have hrun:(execOp a.eval oi).run P w = .ok (.enter f args) w:=by
  unfold execOp
  simp [hop,resolve,Deferred.ofValue,invoke,Act.eval,hargs,he]
 unfold Oper.wp
 rw [hrun,Oper.upon_enter]
 refine h.mono fun e w'' hh => ?_
 obtain ⟨rfl,hq⟩:=hh
 exact hq
theorem blk_setNe {w:World} {g b:Nat} {o:Obj} (h:w.heap[g]? = some o) (hn:g ≠ b) (j:Nat) (v:Value):(w.setCell ⟨b,j,none⟩ v).heap[g]? = some o:=(Below.heap_setCell w ⟨b,j,none⟩ v g hn).trans h
theorem val_below (k n:Int) (s:ByteArray) (w:World):Calls Tryz.prog 370 #[.agg #[.int .i64 k,.int .i64 n,.string s]] w fun e w' => e = .returned (.agg #[.string Ps.sVal,.int .i64 k,.int .i64 n,.string s,.string ⟨#[]⟩,.slice none 0 0])∧Below w.heap.size w w' :=
 (val_calls k n s w).mono fun e w' ⟨he,o,o',hw⟩ => ⟨he,by subst hw;exact below_alloc (below_alloc (Below.refl _ _) _) _⟩
end Go.Proofs.YtcgdncpioafbdaaGreatDoor.Q
namespace Go.Proofs.YtcgdncpioafbdaaGreatDoor.Q
open Go Go.RowKit Go.Proofs.YtcgdncpioafbdaaGreatDoorW.PrintWords Go.Proofs.YtcgdncpioafbdaaGreatDoorW.PrintLast Go.Proofs.YtcgdncpioafbdaaGreatDoorW.PrintMore
def onesL:List ByteArray:=[(⟨#[110,111,116]⟩:ByteArray),(⟨#[110,101,103]⟩:ByteArray),(⟨#[105,115,110,117,108,108]⟩:ByteArray),(⟨#[115,117,109]⟩:ByteArray),(⟨#[109,105,110]⟩:ByteArray),(⟨#[109,97,120]⟩:ByteArray)]
def twosL:List ByteArray:=[(⟨#[111,114]⟩:ByteArray),(⟨#[97,110,100]⟩:ByteArray),(⟨#[61]⟩:ByteArray),(⟨#[60,62]⟩:ByteArray),(⟨#[60]⟩:ByteArray),(⟨#[60,61]⟩:ByteArray),(⟨#[62]⟩:ByteArray),(⟨#[62,61]⟩:ByteArray),(⟨#[43]⟩:ByteArray),(⟨#[45]⟩:ByteArray),(⟨#[124,124]⟩:ByteArray),(⟨#[42]⟩:ByteArray),(⟨#[47]⟩:ByteArray),(⟨#[37]⟩:ByteArray)]
def nameOf (s:ByteArray):ByteArray:=(vidimuslaw17_Name.f 100 s).getD (⟨#[]⟩:ByteArray)
def stepE (s:S114) (l:List S43):List S43 :=
 if s.f0=0 then l ++ [⟨(⟨#[118,97,108]⟩:ByteArray),⟨1,s.f1,(⟨#[]⟩:ByteArray)⟩,(⟨#[]⟩:ByteArray),[]⟩]
 else if s.f0=1 then l ++ [⟨(⟨#[118,97,108]⟩:ByteArray),⟨2,0,s.f2⟩,(⟨#[]⟩:ByteArray),[]⟩]
 else if s.f0=2 then l ++ [⟨(⟨#[118,97,108]⟩:ByteArray),⟨0,0,(⟨#[]⟩:ByteArray)⟩,(⟨#[]⟩:ByteArray),[]⟩]
 else if s.f0=3 then l ++ [⟨(⟨#[99,111,108]⟩:ByteArray),⟨0,0,(⟨#[]⟩:ByteArray)⟩,nameOf s.f2,[]⟩]
 else if s.f0=4 then l ++ [⟨(⟨#[99,111,117,110,116]⟩:ByteArray),⟨0,0,(⟨#[]⟩:ByteArray)⟩,(⟨#[]⟩:ByteArray),[]⟩]
 else if 5 ≤ s.f0∧s.f0 ≤ 10∧0 < l.length then l.set (l.length - 1) ⟨onesL.getD (s.f0 - 5).toNat (⟨#[]⟩:ByteArray),⟨0,0,(⟨#[]⟩:ByteArray)⟩,(⟨#[]⟩:ByteArray),[l.getD (l.length - 1) z43]⟩
 else if 11 ≤ s.f0∧s.f0 < 25∧1 < l.length then l.take (l.length - 2) ++ [⟨twosL.getD (s.f0 - 11).toNat (⟨#[]⟩:ByteArray),⟨0,0,(⟨#[]⟩:ByteArray)⟩,(⟨#[]⟩:ByteArray),[l.getD (l.length - 2) z43,l.getD (l.length - 1) z43]⟩]
 else l
def pileE:List S114 → List S43 → Option (List S43)
 | [],l => some l
 | s :: r,l => if 60 < s.f2.size then none else pileE r (stepE s l)
def pileR (l:List S114):Option S43:=if 40 < l.length then none else (pileE l []).bind (fun p => p.getLast?)
def putE (W:World) (b:Nat) (x:S43) (A:Option Addr) (c:Nat):World:=((((((W.setCell ⟨b,0,none⟩ (.string x.f0)).setCell ⟨b,1,none⟩ (.int .i64 x.f1.f0)).setCell ⟨b,2,none⟩ (.int .i64 x.f1.f1)).setCell ⟨b,3,none⟩ (.string x.f1.f2)).setCell ⟨b,4,none⟩ (.string x.f2)).setCell ⟨b,5,none⟩ (.slice A x.f3.length c))
theorem putE_below {B b:Nat} {w W:World} {x:S43} {A:Option Addr} {c:Nat} (h:Below B w W) (hb:B ≤ b):Below B w (putE W b x A c):=by
 unfold putE
 with_reducible (repeat (first | exact h | refine Below.setCell (p:=⟨b,_,none⟩) ?_ hb _))
theorem putE_F {b:Nat} {W:World} {x:S43} {A A':Option Addr} {c n:Nat} {ok:Nat → Prop} {l:List S43} (h:Kd.F k43 W ok A' n l) (hb:∀ q,ok q → q ≠ b):Kd.F k43 (putE W b x A c) ok A' n l:=by
 unfold putE
 with_reducible (repeat (first | exact h | refine Kd.F_far (p:=⟨b,_,none⟩) ?_ hb _))
theorem res23 {W:World} {rb:Nat} {x:S43} {A:Option Addr} {c:Nat} {v0 v1 v2 v3 v4 v5:Value} {b:Bool} {tmps:Array Value} (hr:W.heap[rb]? = some (.cells #[v0,v1,v2,v3,v4,v5] 43 (0,0))) (h2:tmps[2]?.getD undef = .pointer (some ⟨rb,0,none⟩)) (h3:tmps[3]?.getD undef = .bool b):(results Tryz.f23 tmps).run Tryz.prog (putE W rb x A c) = .ok (.tuple #[.agg (cells43 x A c).toArray,.bool b]) (putE W rb x A c):=by
 have hp:(putE W rb x A c).heap[rb]? = some (.cells #[.string x.f0,.int .i64 x.f1.f0,.int .i64 x.f1.f1,.string x.f1.f2,.string x.f2,.slice A x.f3.length c] 43 (0,0)):=blk_put6 hr
 generalize putE W rb x A c=W1 at hp ⊢
 have rc0:W1.cell? ⟨rb,0,none⟩=some (.string x.f0):=(blk_cell hp 0).trans rfl
 have rc1:W1.cell? ⟨rb,1,none⟩=some (.int .i64 x.f1.f0):=(blk_cell hp 1).trans rfl
 have rc2:W1.cell? ⟨rb,2,none⟩=some (.int .i64 x.f1.f1):=(blk_cell hp 2).trans rfl
 have rc3:W1.cell? ⟨rb,3,none⟩=some (.string x.f1.f2):=(blk_cell hp 3).trans rfl
 have rc4:W1.cell? ⟨rb,4,none⟩=some (.string x.f2):=(blk_cell hp 4).trans rfl
 have rc5:W1.cell? ⟨rb,5,none⟩=some (.slice A x.f3.length c):=(blk_cell hp 5).trans rfl
 have hl:=blk_lt hp
 clear hp hr
 simp [results,Tryz.results23,go_sem,h2,h3,cells43,rc0,rc1,rc2,rc3,rc4,rc5,hl]
theorem end23 {w W:World} {rb:Nat} {l:List S114} {x:S43} {A:Option Addr} {c:Nat} {a0 a1 a2 a3 a4 a5:Value} {b:Bool} {a:Act} (hr:W.heap[rb]? = some (.cells #[a0,a1,a2,a3,a4,a5] 43 (0,0))) (h2:a.tmps[2]?.getD undef = .pointer (some ⟨rb,0,none⟩)) (h3:a.tmps[3]?.getD undef = .bool b) (hd:a.defers=[])
  (hrb:w.heap.size=rb) (hb:Below w.heap.size w W) (hp:(pileR l).getD z43=x) (hs:(pileR l).isSome=b) (hc:x.f3.length ≤ c) (hF:Kd.F k43 W (fun q => w.heap.size < q) A x.f3.length x.f3) :
  bodyPost Tryz.prog Tryz.f23 (fun e w' => Below w.heap.size w w'∧∃ v,e = .returned (.tuple #[v,.bool (pileR l).isSome])∧Vex w.heap.size w' ((pileR l).getD z43) v) .ret a (putE W rb x A c):=by
 refine bodyPost_ret (v:=.tuple #[.agg (cells43 x A c).toArray,.bool b]) (res23 hr h2 h3) hd ⟨putE_below hb (by omega),_,by rw [hs],?_⟩
 rw [hp]
 exact ⟨A,c,rfl,hc,Kd.F_mono (putE_F hF (fun q hq => by omega)) (fun q hq => Nat.le_of_lt hq)⟩
theorem store_run {P:Program} {oi:Oper} {a:Act} {w W1:World} {t:TypeId} {p x:Operand} {u:Value} {ad:Addr} (ho:oi.op = .store t p x) (hp:a.eval p = .pointer (some ad)) (hx:a.eval x=u) (hr:(Instr.storeAt t (.pointer (some ad)) u).run P w = .ok () W1):(execOp a.eval oi).run P w = .ok .skip W1:=by
 unfold execOp
 simp only [ho,hp,hx,Sem.run_bind,Sem.run_pure,Result.andThen_ok,hr]
set_option maxHeartbeats 4000000 in
set_option maxRecDepth 100000 in
theorem pile_out {l:List S114} {w:World} {A:Option Addr} {c:Nat} (hc:l.length ≤ c) (hC:Kd.C k114 w A l.length l) (hnm:∀ s ∈ l,vidimuslaw17_Name.f 100 s.f2=some (nameOf s.f2)):Calls Tryz.prog 23 #[.slice A l.length c] w fun e w' => Below w.heap.size w w'∧∃ v,e = .returned (.tuple #[v,.bool (pileR l).isSome])∧Vex w.heap.size w' ((pileR l).getD z43) v:=by
 have HNM:=Aside0.mk hnm
 have HC0:=Aside0.mk hC
 clear hnm hC
 go_enter Tryz.func23,Tryz.ntmps23
 go_upto_region 1 with (fail)
 have HBW0:=Aside0.mk (below_alloc (Below.refl w.heap.size w) (.cells #[.string ⟨#[]⟩,.int .i64 0,.int .i64 0,.string ⟨#[]⟩,.string ⟨#[]⟩,.slice none 0 0] 43 (0,0)))
 have BR0:=Aside0.mk (new_blk (W:=w) (.cells #[.string ⟨#[]⟩,.int .i64 0,.int .i64 0,.string ⟨#[]⟩,.string ⟨#[]⟩,.slice none 0 0] 43 (0,0)) rfl)
 obtain ⟨rb,hrb⟩:∃ n,w.heap.size=n:=⟨_,rfl⟩
 rw [hrb] at BR0 ⊢
 generalize hW:w.alloc (.cells #[.string ⟨#[]⟩,.int .i64 0,.int .i64 0,.string ⟨#[]⟩,.string ⟨#[]⟩,.slice none 0 0] 43 (0,0))=W0 at HBW0 BR0 ⊢
 have hrl:=blk_lt BR0.out
 clear hW
 by_cases h40:40 < l.length
 ·have d1:decide (40 < l.length)=true:=decide_eq_true h40
  have d1i:decide ((40:Int) < (l.length:Int))=true:=decide_eq_true (by omega)
  have HR:=Aside0.mk (show pileR l=none by unfold pileR;rw [if_pos h40])
  clear h40
  have y0:W0.cell? ⟨rb,0,none⟩=some (.string ⟨#[]⟩):=(blk_cell BR0.out 0).trans rfl
  have y1:W0.cell? ⟨rb,1,none⟩=some (.int .i64 0):=(blk_cell BR0.out 1).trans rfl
  have y2:W0.cell? ⟨rb,2,none⟩=some (.int .i64 0):=(blk_cell BR0.out 2).trans rfl
  have y3:W0.cell? ⟨rb,3,none⟩=some (.string ⟨#[]⟩):=(blk_cell BR0.out 3).trans rfl
  have y4:W0.cell? ⟨rb,4,none⟩=some (.string ⟨#[]⟩):=(blk_cell BR0.out 4).trans rfl
  have y5:W0.cell? ⟨rb,5,none⟩=some (.slice none 0 0):=(blk_cell BR0.out 5).trans rfl
  have yz0:=blk_frozen BR0.out 0
  have yz1:=blk_frozen BR0.out 1
  have yz2:=blk_frozen BR0.out 2
  have yz3:=blk_frozen BR0.out 3
  have yz4:=blk_frozen BR0.out 4
  have yz5:=blk_frozen BR0.out 5
  have hrl0:=blk_lt BR0.out
  go_wp2
  exact end23 (W:=W0) (x:=z43) (A:=none) (c:=0) BR0.out rfl rfl rfl hrb HBW0.out (by rw [HR.out];rfl) (by rw [HR.out];rfl) (Nat.le_refl _) (Kd.F_nil _ _ _)
 have HLL:=Aside0.mk (Nat.le_of_not_lt h40)
 have HR0:=Aside0.mk (show pileR l=(pileE l []).bind (fun p => p.getLast?) by unfold pileR;rw [if_neg h40])
 have d1:decide (40 < l.length)=false:=decide_eq_false h40
 have d1i:decide ((40:Int) < (l.length:Int))=false:=decide_eq_false (by omega)
 clear h40
 go_upto_region 5 with (first | ((with_reducible refine gate_dst (N:=14) rfl ?_);refine Kd.R_lit Kd.string _ 9 ?hg (N:=14) ?hd (xs:=twosL) (inner:=[.string (⟨#[111,114]⟩:ByteArray),.string (⟨#[97,110,100]⟩:ByteArray),.string (⟨#[61]⟩:ByteArray),.string (⟨#[60,62]⟩:ByteArray),.string (⟨#[60]⟩:ByteArray),.string (⟨#[60,61]⟩:ByteArray),.string (⟨#[62]⟩:ByteArray),.string (⟨#[62,61]⟩:ByteArray),.string (⟨#[43]⟩:ByteArray),.string (⟨#[45]⟩:ByteArray),.string (⟨#[124,124]⟩:ByteArray),.string (⟨#[42]⟩:ByteArray),.string (⟨#[47]⟩:ByteArray),.string (⟨#[37]⟩:ByteArray)]) (ok:=fun _ => True) (okp:=fun _ => True) ?hr ?hp (fun _ hk => hk) trivial (Below.refl _ _) (Nat.le_refl _) (by decide) ?_;(case hd => rfl);(case hg => rfl);(case hr => first | (go_simp;done) | (go_simp;rfl));(case hp => exact (Reps.one (show Kd.M Kd.string _ _ _ (⟨#[111,114]⟩:ByteArray) [.string (⟨#[111,114]⟩:ByteArray)] from rfl) (Reps.one (show Kd.M Kd.string _ _ _ (⟨#[97,110,100]⟩:ByteArray) [.string (⟨#[97,110,100]⟩:ByteArray)] from rfl) (Reps.one (show Kd.M Kd.string _ _ _ (⟨#[61]⟩:ByteArray) [.string (⟨#[61]⟩:ByteArray)] from rfl) (Reps.one (show Kd.M Kd.string _ _ _ (⟨#[60,62]⟩:ByteArray) [.string (⟨#[60,62]⟩:ByteArray)] from rfl) (Reps.one (show Kd.M Kd.string _ _ _ (⟨#[60]⟩:ByteArray) [.string (⟨#[60]⟩:ByteArray)] from rfl) (Reps.one (show Kd.M Kd.string _ _ _ (⟨#[60,61]⟩:ByteArray) [.string (⟨#[60,61]⟩:ByteArray)] from rfl) (Reps.one (show Kd.M Kd.string _ _ _ (⟨#[62]⟩:ByteArray) [.string (⟨#[62]⟩:ByteArray)] from rfl) (Reps.one (show Kd.M Kd.string _ _ _ (⟨#[62,61]⟩:ByteArray) [.string (⟨#[62,61]⟩:ByteArray)] from rfl) (Reps.one (show Kd.M Kd.string _ _ _ (⟨#[43]⟩:ByteArray) [.string (⟨#[43]⟩:ByteArray)] from rfl) (Reps.one (show Kd.M Kd.string _ _ _ (⟨#[45]⟩:ByteArray) [.string (⟨#[45]⟩:ByteArray)] from rfl) (Reps.one (show Kd.M Kd.string _ _ _ (⟨#[124,124]⟩:ByteArray) [.string (⟨#[124,124]⟩:ByteArray)] from rfl) (Reps.one (show Kd.M Kd.string _ _ _ (⟨#[42]⟩:ByteArray) [.string (⟨#[42]⟩:ByteArray)] from rfl) (Reps.one (show Kd.M Kd.string _ _ _ (⟨#[47]⟩:ByteArray) [.string (⟨#[47]⟩:ByteArray)] from rfl) (Reps.one (show Kd.M Kd.string _ _ _ (⟨#[37]⟩:ByteArray) [.string (⟨#[37]⟩:ByteArray)] from rfl) (Reps.none _ _))))))))))))))));intro v1 w1 ho hb hg hat;obtain ⟨A1,c1,rfl⟩:=Kd.R_slice ho;have HC1:=Aside0.mk (Kd.R_reads' ho).2.2;have HB1:=Aside0.mk hb;clear ho hb hg hat) | ((with_reducible refine gate_dst (N:=15) rfl ?_);refine Kd.R_lit Kd.string _ 9 ?hg (N:=15) ?hd (xs:=onesL) (inner:=[.string (⟨#[110,111,116]⟩:ByteArray),.string (⟨#[110,101,103]⟩:ByteArray),.string (⟨#[105,115,110,117,108,108]⟩:ByteArray),.string (⟨#[115,117,109]⟩:ByteArray),.string (⟨#[109,105,110]⟩:ByteArray),.string (⟨#[109,97,120]⟩:ByteArray)]) (ok:=fun _ => True) (okp:=fun _ => True) ?hr ?hp (fun _ hk => hk) trivial (Below.refl _ _) (Nat.le_refl _) (by decide) ?_;(case hd => rfl);(case hg => rfl);(case hr => first | (go_simp;done) | (go_simp;rfl));(case hp => exact (Reps.one (show Kd.M Kd.string _ _ _ (⟨#[110,111,116]⟩:ByteArray) [.string (⟨#[110,111,116]⟩:ByteArray)] from rfl) (Reps.one (show Kd.M Kd.string _ _ _ (⟨#[110,101,103]⟩:ByteArray) [.string (⟨#[110,101,103]⟩:ByteArray)] from rfl) (Reps.one (show Kd.M Kd.string _ _ _ (⟨#[105,115,110,117,108,108]⟩:ByteArray) [.string (⟨#[105,115,110,117,108,108]⟩:ByteArray)] from rfl) (Reps.one (show Kd.M Kd.string _ _ _ (⟨#[115,117,109]⟩:ByteArray) [.string (⟨#[115,117,109]⟩:ByteArray)] from rfl) (Reps.one (show Kd.M Kd.string _ _ _ (⟨#[109,105,110]⟩:ByteArray) [.string (⟨#[109,105,110]⟩:ByteArray)] from rfl) (Reps.one (show Kd.M Kd.string _ _ _ (⟨#[109,97,120]⟩:ByteArray) [.string (⟨#[109,97,120]⟩:ByteArray)] from rfl) (Reps.none _ _))))))));intro v2 w2 ho hb hg hat;obtain ⟨A2,c2,rfl⟩:=Kd.R_slice ho;have HC2:=Aside0.mk (Kd.R_reads' ho).2.2;have HB2:=Aside0.mk hb;clear ho hb hg hat))
 have HBL:=Aside0.mk (below_step HBW0.out (HB1.out.trans (HB2.out.mono HB1.out.size)))
 have HT1:=Aside0.mk (Kd.C_below HC1.out HB2.out)
 have HT2:=HC2
 have BR2:=Aside0.mk ((HB2.out.block rb (by have:=HB1.out.size;omega)).trans ((HB1.out.block rb hrl).trans BR0.out))
 have hw2:rb < w2.heap.size:=blk_lt BR2.out
 clear HC1 HB1 HB2 HC2
 go_wp2
 go_loopg [6,18] l.length (fun kq v6 v18 w' => ∃ (j:Nat) (xs:List S43) (Ax:Option Addr) (cx:Nat),v6 = .slice Ax xs.length cx∧v18 = .int .i64 (j:Int)∧Aside0 (j + kq=l.length)∧Aside0 (pileE (l.drop j) xs=pileE l [])∧Aside0 (xs.length ≤ j)∧Aside0 (Kd.N k43 43 w' w2.heap.size (fun q => w2.heap.size ≤ q) (.slice Ax xs.length cx) xs)∧Aside0 (Below w2.heap.size w2 w'))
 case atStart => exact ⟨0,[],none,0,rfl,rfl,⟨by omega⟩,⟨rfl⟩,⟨Nat.le_refl _⟩,⟨Kd.N_nil _ _ _ _ _⟩,⟨Below.refl _ _⟩⟩
 case round =>
  obtain ⟨j,xs,Ax,cx,rfl,rfl,HJ,HPE0,HLN0,HO,HB⟩:=hrel
  have hjl:=HJ.out
  cases gk with
  | zero =>
   have d0:decide (j < l.length)=false:=decide_eq_false (by omega)
   have d0i:decide ((j:Int) < (l.length:Int))=false:=decide_eq_false (by omega)
   have HRX:=Aside0.mk (show pileR l=xs.getLast? by rw [HR0.out,← HPE0.out,List.drop_of_length_le (by omega)];rfl)
   clear hjl
   have BR:=Aside0.mk ((HB.out.block rb hw2).trans BR2.out)
   have y0:wr.cell? ⟨rb,0,none⟩=some (.string ⟨#[]⟩):=(blk_cell BR.out 0).trans rfl
   have y1:wr.cell? ⟨rb,1,none⟩=some (.int .i64 0):=(blk_cell BR.out 1).trans rfl
   have y2:wr.cell? ⟨rb,2,none⟩=some (.int .i64 0):=(blk_cell BR.out 2).trans rfl
   have y3:wr.cell? ⟨rb,3,none⟩=some (.string ⟨#[]⟩):=(blk_cell BR.out 3).trans rfl
   have y4:wr.cell? ⟨rb,4,none⟩=some (.string ⟨#[]⟩):=(blk_cell BR.out 4).trans rfl
   have y5:wr.cell? ⟨rb,5,none⟩=some (.slice none 0 0):=(blk_cell BR.out 5).trans rfl
   have yz0:=blk_frozen BR.out 0
   have yz1:=blk_frozen BR.out 1
   have yz2:=blk_frozen BR.out 2
   have yz3:=blk_frozen BR.out 3
   have yz4:=blk_frozen BR.out 4
   have yz5:=blk_frozen BR.out 5
   have hrl1:=blk_lt BR.out
   by_cases hx0:xs.length=0
   ·have d3:(xs.length == 0)=true:=beq_iff_eq.mpr hx0
    have d3i:(((xs.length:Nat):Int) == 0)=true:=beq_iff_eq.mpr (by omega)
    have HR:=Aside0.mk (show pileR l=none by rw [HRX.out,List.eq_nil_of_length_eq_zero hx0];rfl)
    clear hx0
    go_wp2
    exact end23 (W:=wr) (x:=z43) (A:=none) (c:=0) BR.out rfl rfl rfl hrb (below_step HBL.out HB.out) (by rw [HR.out];rfl) (by rw [HR.out];rfl) (Nat.le_refl _) (Kd.F_nil _ _ _)
   ·have d3:(xs.length == 0)=false:=beq_eq_false_iff_ne.mpr hx0
    have d3i:(((xs.length:Nat):Int) == 0)=false:=beq_eq_false_iff_ne.mpr (by omega)
    obtain ⟨m,hm⟩:∃ m,xs.length=m + 1:=⟨xs.length - 1,by omega⟩
    have p1:0 ≤ (m:Int):=by omega
    have q1:(m:Int) < (xs.length:Int):=by omega
    have HOF:=Aside0.mk (Kd.N_F HO.out)
    obtain ⟨ad,cs,e0,_,hK,hc0⟩:=Kd.F_get HOF.out z43 (m:Int) p1 q1
    subst e0
    have hrd:xs.getD (m:Int).toNat z43=xs[m]:=by rw [Int.toNat_natCast,List.getD_eq_getElem?_getD,List.getElem?_eq_getElem (by omega)];rfl
    rw [hrd] at hK
    obtain ⟨x,hx⟩:∃ x,xs[m]=x:=⟨_,rfl⟩
    rw [hx] at hK
    have HR:=Aside0.mk (show pileR l=some x by rw [HRX.out,List.getLast?_eq_getElem?,show xs.length - 1=m by omega,List.getElem?_eq_getElem (by omega),hx])
    obtain ⟨A5,c5,rfl,hl5,hf5⟩:=k43_openF hK
    simp only [Int.toNat_natCast] at hc0
    have hcc:∀ j u,[Value.string x.f0,Value.int .i64 x.f1.f0,Value.int .i64 x.f1.f1,Value.string x.f1.f2,Value.string x.f2,Value.slice A5 x.f3.length c5][j]? = some u → wr.cell? (ad.add (m * 6 + j))=some u:=fun j u h => hc0.1 j u h
    have x0:wr.cell? (ad.add (m * 6))=some (.string x.f0):=hcc 0 _ rfl
    have x1:wr.cell? ⟨(ad.add (m * 6)).block,(ad.add (m * 6)).off + 1,none⟩=some (.int .i64 x.f1.f0):=by rw [← add_field _ _ 1 (by omega)];exact hcc 1 _ rfl
    have x2:wr.cell? ⟨(ad.add (m * 6)).block,(ad.add (m * 6)).off + 2,none⟩=some (.int .i64 x.f1.f1):=by rw [← add_field _ _ 2 (by omega)];exact hcc 2 _ rfl
    have x3:wr.cell? ⟨(ad.add (m * 6)).block,(ad.add (m * 6)).off + 3,none⟩=some (.string x.f1.f2):=by rw [← add_field _ _ 3 (by omega)];exact hcc 3 _ rfl
    have x4:wr.cell? ⟨(ad.add (m * 6)).block,(ad.add (m * 6)).off + 4,none⟩=some (.string x.f2):=by rw [← add_field _ _ 4 (by omega)];exact hcc 4 _ rfl
    have x5:wr.cell? ⟨(ad.add (m * 6)).block,(ad.add (m * 6)).off + 5,none⟩=some (.slice A5 x.f3.length c5):=by rw [← add_field _ _ 5 (by omega)];exact hcc 5 _ rfl
    have hw1:wrap64 ((xs.length:Int) - 1)=(m:Int):=by have:=HLN0.out;have:=HLL.out;have:=HJ.out;unfold wrap64;omega
    have HF5:=Aside0.mk hf5
    have HL5:=Aside0.mk hl5
    have HHB:=Aside0.mk (show w.heap.size < w2.heap.size by omega)
    replace p1:=eq_true p1
    replace q1:=eq_true q1
    clear hx0 hK hc0 hcc hrd hx hf5 hl5 hm
    go_wp2
    exact end23 (W:=wr) (x:=x) (A:=A5) (c:=c5) BR.out rfl rfl rfl hrb (below_step HBL.out HB.out) (by rw [HR.out];rfl) (by rw [HR.out];rfl) HL5.out (Kd.F_mono HF5.out (fun q hq => Nat.lt_of_lt_of_le HHB.out hq))
  | succ k1 =>
   have d0:decide (j < l.length)=true:=decide_eq_true (by omega)
   have d0i:decide ((j:Int) < (l.length:Int))=true:=decide_eq_true (by omega)
   have p1:0 ≤ (j:Int):=by omega
   have q1:(j:Int) < (l.length:Int):=by omega
   obtain ⟨ad,e0,z0,z1,z2⟩:=at_T114 (Kd.C_below HC0.out (below_step HBL.out HB.out)) (j:Int) p1 q1
   subst e0
   have hrd:rd_T114 l (j:Int)=l[j]:=by unfold rd_T114;rw [Int.toNat_natCast,List.getD_eq_getElem?_getD,List.getElem?_eq_getElem (by omega)];rfl
   obtain ⟨s,hs⟩:∃ s,l[j]=s:=⟨_,rfl⟩
   rw [hrd,hs] at z0 z1 z2
   simp only [Int.toNat_natCast] at z0 z1 z2
   have HNS:=Aside0.mk (HNM.out s (by rw [← hs];exact List.getElem_mem _))
   have hpe:pileE (s :: l.drop (j + 1)) xs=pileE l []:=by rw [← HPE0.out,List.drop_eq_getElem_cons (show j < l.length by omega),hs]
   have HPE1:=Aside0.mk hpe
   have HLN:=Aside0.mk (show xs.length ≤ j∧j < 40 by have:=HLN0.out;have:=HLL.out;omega)
   have hw1:wrap64 ((j:Int) + 1)=((j + 1:Nat):Int):=by have:=HLL.out;unfold wrap64;omega
   replace p1:=eq_true p1
   replace q1:=eq_true q1
   clear hpe hs hrd hjl
   go_upto_region 9 with (fail)
   have BS:=Aside0.mk (new_blk (W:=wr) (.cells #[.int .i64 s.f0,.int .i64 s.f1,.string s.f2] 114 (0,0)) rfl)
   have HOW:=Aside0.mk (Kd.N_alloc HO.out (.cells #[.int .i64 s.f0,.int .i64 s.f1,.string s.f2] 114 (0,0)))
   have HBW:=Aside0.mk (below_alloc HB.out (.cells #[.int .i64 s.f0,.int .i64 s.f1,.string s.f2] 114 (0,0)))
   generalize hsb:wr.heap.size=sb at BS ⊢
   generalize hW:wr.alloc (.cells #[.int .i64 s.f0,.int .i64 s.f1,.string s.f2] 114 (0,0))=W at BS HOW HBW ⊢
   clear hsb hW HO HB
   have t0:W.cell? ⟨sb,0,none⟩=some (.int .i64 s.f0):=(blk_cell BS.out 0).trans rfl
   have t1:W.cell? ⟨sb,1,none⟩=some (.int .i64 s.f1):=(blk_cell BS.out 1).trans rfl
   have t2:W.cell? ⟨sb,2,none⟩=some (.string s.f2):=(blk_cell BS.out 2).trans rfl
   have hsl:=blk_lt BS.out
   clear z0 z1 z2
   by_cases h60:60 < s.f2.size
   ·have d6:decide (60 < s.f2.size)=true:=decide_eq_true h60
    have d6i:decide ((60:Int) < (s.f2.size:Int))=true:=decide_eq_true (by omega)
    have HR:=Aside0.mk (show pileR l=none by rw [HR0.out,← HPE1.out,pileE,if_pos h60];rfl)
    clear h60
    have BR:=Aside0.mk ((HBW.out.block rb hw2).trans BR2.out)
    have y0:W.cell? ⟨rb,0,none⟩=some (.string ⟨#[]⟩):=(blk_cell BR.out 0).trans rfl
    have y1:W.cell? ⟨rb,1,none⟩=some (.int .i64 0):=(blk_cell BR.out 1).trans rfl
    have y2:W.cell? ⟨rb,2,none⟩=some (.int .i64 0):=(blk_cell BR.out 2).trans rfl
    have y3:W.cell? ⟨rb,3,none⟩=some (.string ⟨#[]⟩):=(blk_cell BR.out 3).trans rfl
    have y4:W.cell? ⟨rb,4,none⟩=some (.string ⟨#[]⟩):=(blk_cell BR.out 4).trans rfl
    have y5:W.cell? ⟨rb,5,none⟩=some (.slice none 0 0):=(blk_cell BR.out 5).trans rfl
    have yz0:=blk_frozen BR.out 0
    have yz1:=blk_frozen BR.out 1
    have yz2:=blk_frozen BR.out 2
    have yz3:=blk_frozen BR.out 3
    have yz4:=blk_frozen BR.out 4
    have yz5:=blk_frozen BR.out 5
    have hrl2:=blk_lt BR.out
    go_wp2
    exact end23 (W:=W) (x:=z43) (A:=none) (c:=0) BR.out rfl rfl rfl hrb (below_step HBL.out HBW.out) (by rw [HR.out];rfl) (by rw [HR.out];rfl) (Nat.le_refl _) (Kd.F_nil _ _ _)
   have d6:decide (60 < s.f2.size)=false:=decide_eq_false h60
   have d6i:decide ((60:Int) < (s.f2.size:Int))=false:=decide_eq_false (by omega)
   have HPE:=Aside0.mk (show pileE (l.drop (j + 1)) (stepE s xs)=pileE l [] by rw [← HPE1.out,pileE,if_neg h60])
   clear h60 HPE1
   go_upto_region 12 with (fail)
   by_cases c0:s.f0=0
   ·have HE:=Aside0.mk (show stepE s xs=xs ++ [⟨(⟨#[118,97,108]⟩:ByteArray),⟨1,s.f1,(⟨#[]⟩:ByteArray)⟩,(⟨#[]⟩:ByteArray),[]⟩] by unfold stepE;rw [if_pos c0])
    have b0:(s.f0 == 0)=true:=beq_iff_eq.mpr c0
    clear c0
    go_wp2_with (first | ((with_reducible refine gate_builtin (b:=.append) (xs:=#[.tmp 33,.tmp 38]) rfl ?_);at_builtin;refine Kd.N_append k43 (w0:=w2) w2.heap.size rfl (.tmp 33) (.tmp 38) 41 43 (.agg #[(.string ⟨#[]⟩),(.int .i64 0),(.int .i64 0),(.string ⟨#[]⟩),(.string ⟨#[]⟩),(.slice none 0 0)]) 88 rfl Tryz.underlying41 info43 rfl (by decide) (by omega) (.slice Ax xs.length cx) xs ⟨(⟨#[118,97,108]⟩:ByteArray),⟨1,s.f1,(⟨#[]⟩:ByteArray)⟩,(⟨#[]⟩:ByteArray),[]⟩ (cells43 ⟨(⟨#[118,97,108]⟩:ByteArray),⟨1,s.f1,(⟨#[]⟩:ByteArray)⟩,(⟨#[]⟩:ByteArray),[]⟩ none 0) (fun q => w2.heap.size ≤ q) (fun _ => False) rfl rfl (FK43 (Nat.le_refl _) (Kd.F_nil _ _ _)) (fun q hq => hq.elim) (fun q hq => Nat.le_trans HBW.out.size hq) HOW.out HBW.out HBW.out.size (by have:=HLN.out;omega) ?_;intro v6 w6 ho hb hg hat;obtain ⟨A6,c6,rfl⟩:=Kd.N_slice ho;have HO6:=Aside0.mk ho;have HB6:=Aside0.mk hb;clear ho hb hg hat))
    go_roundg k1
    case measure => have:=HJ.out;omega
    case rel => exact ⟨j + 1,xs ++ [⟨(⟨#[118,97,108]⟩:ByteArray),⟨1,s.f1,(⟨#[]⟩:ByteArray)⟩,(⟨#[]⟩:ByteArray),[]⟩],A6,c6,by first | rfl | (simp;done) | (rw [HLE.out];done),by first | (rw [hw1];done) | rfl | (simp;done),⟨by have:=HJ.out;omega⟩,⟨by rw [← HPE.out,HE.out]⟩,⟨by have:=HLN.out;first | omega | (simp;omega)⟩,HO6,HB6⟩
   by_cases c1:s.f0=1
   ·have HE:=Aside0.mk (show stepE s xs=xs ++ [⟨(⟨#[118,97,108]⟩:ByteArray),⟨2,0,s.f2⟩,(⟨#[]⟩:ByteArray),[]⟩] by unfold stepE;rw [if_neg c0,if_pos c1])
    have b0:(s.f0 == 0)=false:=beq_eq_false_iff_ne.mpr c0
    have b1:(s.f0 == 1)=true:=beq_iff_eq.mpr c1
    clear c0 c1
    go_wp2_with (first | ((with_reducible refine gate_builtin (b:=.append) (xs:=#[.tmp 44,.tmp 49]) rfl ?_);at_builtin;refine Kd.N_append k43 (w0:=w2) w2.heap.size rfl (.tmp 44) (.tmp 49) 41 43 (.agg #[(.string ⟨#[]⟩),(.int .i64 0),(.int .i64 0),(.string ⟨#[]⟩),(.string ⟨#[]⟩),(.slice none 0 0)]) 88 rfl Tryz.underlying41 info43 rfl (by decide) (by omega) (.slice Ax xs.length cx) xs ⟨(⟨#[118,97,108]⟩:ByteArray),⟨2,0,s.f2⟩,(⟨#[]⟩:ByteArray),[]⟩ (cells43 ⟨(⟨#[118,97,108]⟩:ByteArray),⟨2,0,s.f2⟩,(⟨#[]⟩:ByteArray),[]⟩ none 0) (fun q => w2.heap.size ≤ q) (fun _ => False) rfl rfl (FK43 (Nat.le_refl _) (Kd.F_nil _ _ _)) (fun q hq => hq.elim) (fun q hq => Nat.le_trans HBW.out.size hq) HOW.out HBW.out HBW.out.size (by have:=HLN.out;omega) ?_;intro v6 w6 ho hb hg hat;obtain ⟨A6,c6,rfl⟩:=Kd.N_slice ho;have HO6:=Aside0.mk ho;have HB6:=Aside0.mk hb;clear ho hb hg hat))
    go_roundg k1
    case measure => have:=HJ.out;omega
    case rel => exact ⟨j + 1,xs ++ [⟨(⟨#[118,97,108]⟩:ByteArray),⟨2,0,s.f2⟩,(⟨#[]⟩:ByteArray),[]⟩],A6,c6,by first | rfl | (simp;done) | (rw [HLE.out];done),by first | (rw [hw1];done) | rfl | (simp;done),⟨by have:=HJ.out;omega⟩,⟨by rw [← HPE.out,HE.out]⟩,⟨by have:=HLN.out;first | omega | (simp;omega)⟩,HO6,HB6⟩
   by_cases c2:s.f0=2
   ·have HE:=Aside0.mk (show stepE s xs=xs ++ [⟨(⟨#[118,97,108]⟩:ByteArray),⟨0,0,(⟨#[]⟩:ByteArray)⟩,(⟨#[]⟩:ByteArray),[]⟩] by unfold stepE;rw [if_neg c0,if_neg c1,if_pos c2])
    have b0:(s.f0 == 0)=false:=beq_eq_false_iff_ne.mpr c0
    have b1:(s.f0 == 1)=false:=beq_eq_false_iff_ne.mpr c1
    have b2:(s.f0 == 2)=true:=beq_iff_eq.mpr c2
    clear c0 c1 c2
    go_wp2_with (first | ((with_reducible refine gate_builtin (b:=.append) (xs:=#[.tmp 55,.tmp 57]) rfl ?_);at_builtin;refine Kd.N_append k43 (w0:=w2) w2.heap.size rfl (.tmp 55) (.tmp 57) 41 43 (.agg #[(.string ⟨#[]⟩),(.int .i64 0),(.int .i64 0),(.string ⟨#[]⟩),(.string ⟨#[]⟩),(.slice none 0 0)]) 88 rfl Tryz.underlying41 info43 rfl (by decide) (by omega) (.slice Ax xs.length cx) xs ⟨(⟨#[118,97,108]⟩:ByteArray),⟨0,0,(⟨#[]⟩:ByteArray)⟩,(⟨#[]⟩:ByteArray),[]⟩ (cells43 ⟨(⟨#[118,97,108]⟩:ByteArray),⟨0,0,(⟨#[]⟩:ByteArray)⟩,(⟨#[]⟩:ByteArray),[]⟩ none 0) (fun q => w2.heap.size ≤ q) (fun _ => False) rfl rfl (FK43 (Nat.le_refl _) (Kd.F_nil _ _ _)) (fun q hq => hq.elim) (fun q hq => Nat.le_trans HBW.out.size hq) HOW.out HBW.out HBW.out.size (by have:=HLN.out;omega) ?_;intro v6 w6 ho hb hg hat;obtain ⟨A6,c6,rfl⟩:=Kd.N_slice ho;have HO6:=Aside0.mk ho;have HB6:=Aside0.mk hb;clear ho hb hg hat))
    go_roundg k1
    case measure => have:=HJ.out;omega
    case rel => exact ⟨j + 1,xs ++ [⟨(⟨#[118,97,108]⟩:ByteArray),⟨0,0,(⟨#[]⟩:ByteArray)⟩,(⟨#[]⟩:ByteArray),[]⟩],A6,c6,by first | rfl | (simp;done) | (rw [HLE.out];done),by first | (rw [hw1];done) | rfl | (simp;done),⟨by have:=HJ.out;omega⟩,⟨by rw [← HPE.out,HE.out]⟩,⟨by have:=HLN.out;first | omega | (simp;omega)⟩,HO6,HB6⟩
   by_cases c3:s.f0=3
   ·have HE:=Aside0.mk (show stepE s xs=xs ++ [⟨(⟨#[99,111,108]⟩:ByteArray),⟨0,0,(⟨#[]⟩:ByteArray)⟩,nameOf s.f2,[]⟩] by unfold stepE;rw [if_neg c0,if_neg c1,if_neg c2,if_pos c3])
    have b0:(s.f0 == 0)=false:=beq_eq_false_iff_ne.mpr c0
    have b1:(s.f0 == 1)=false:=beq_eq_false_iff_ne.mpr c1
    have b2:(s.f0 == 2)=false:=beq_eq_false_iff_ne.mpr c2
    have b3:(s.f0 == 3)=true:=beq_iff_eq.mpr c3
    clear c0 c1 c2 c3
    go_wp2_with (first | (go_at_call 72;refine (vidimuslaw17_Name.calls 100 s.f2 (nameOf s.f2) _ HNS.out).mono ?_;rintro e1 w1 ⟨rfl,hb⟩;have HO1:=Aside0.mk (Kd.N_below HOW.out hb);have HB1:=Aside0.mk (below_step HBW.out hb);clear hb) | ((with_reducible refine gate_builtin (b:=.append) (xs:=#[.tmp 63,.tmp 68]) rfl ?_);at_builtin;refine Kd.N_append k43 (w0:=w2) w2.heap.size rfl (.tmp 63) (.tmp 68) 41 43 (.agg #[(.string ⟨#[]⟩),(.int .i64 0),(.int .i64 0),(.string ⟨#[]⟩),(.string ⟨#[]⟩),(.slice none 0 0)]) 88 rfl Tryz.underlying41 info43 rfl (by decide) (by omega) (.slice Ax xs.length cx) xs ⟨(⟨#[99,111,108]⟩:ByteArray),⟨0,0,(⟨#[]⟩:ByteArray)⟩,nameOf s.f2,[]⟩ (cells43 ⟨(⟨#[99,111,108]⟩:ByteArray),⟨0,0,(⟨#[]⟩:ByteArray)⟩,nameOf s.f2,[]⟩ none 0) (fun q => w2.heap.size ≤ q) (fun _ => False) rfl rfl (FK43 (Nat.le_refl _) (Kd.F_nil _ _ _)) (fun q hq => hq.elim) (fun q hq => Nat.le_trans HB1.out.size hq) HO1.out HB1.out HB1.out.size (by have:=HLN.out;omega) ?_;intro v6 w6 ho hb hg hat;obtain ⟨A6,c6,rfl⟩:=Kd.N_slice ho;have HO6:=Aside0.mk ho;have HB6:=Aside0.mk hb;clear ho hb hg hat))
    go_roundg k1
    case measure => have:=HJ.out;omega
    case rel => exact ⟨j + 1,xs ++ [⟨(⟨#[99,111,108]⟩:ByteArray),⟨0,0,(⟨#[]⟩:ByteArray)⟩,nameOf s.f2,[]⟩],A6,c6,by first | rfl | (simp;done) | (rw [HLE.out];done),by first | (rw [hw1];done) | rfl | (simp;done),⟨by have:=HJ.out;omega⟩,⟨by rw [← HPE.out,HE.out]⟩,⟨by have:=HLN.out;first | omega | (simp;omega)⟩,HO6,HB6⟩
   by_cases c4:s.f0=4
   ·have HE:=Aside0.mk (show stepE s xs=xs ++ [⟨(⟨#[99,111,117,110,116]⟩:ByteArray),⟨0,0,(⟨#[]⟩:ByteArray)⟩,(⟨#[]⟩:ByteArray),[]⟩] by unfold stepE;rw [if_neg c0,if_neg c1,if_neg c2,if_neg c3,if_pos c4])
    have b0:(s.f0 == 0)=false:=beq_eq_false_iff_ne.mpr c0
    have b1:(s.f0 == 1)=false:=beq_eq_false_iff_ne.mpr c1
    have b2:(s.f0 == 2)=false:=beq_eq_false_iff_ne.mpr c2
    have b3:(s.f0 == 3)=false:=beq_eq_false_iff_ne.mpr c3
    have b4:(s.f0 == 4)=true:=beq_iff_eq.mpr c4
    clear c0 c1 c2 c3 c4
    go_wp2_with (first | ((with_reducible refine gate_builtin (b:=.append) (xs:=#[.tmp 74,.tmp 76]) rfl ?_);at_builtin;refine Kd.N_append k43 (w0:=w2) w2.heap.size rfl (.tmp 74) (.tmp 76) 41 43 (.agg #[(.string ⟨#[]⟩),(.int .i64 0),(.int .i64 0),(.string ⟨#[]⟩),(.string ⟨#[]⟩),(.slice none 0 0)]) 88 rfl Tryz.underlying41 info43 rfl (by decide) (by omega) (.slice Ax xs.length cx) xs ⟨(⟨#[99,111,117,110,116]⟩:ByteArray),⟨0,0,(⟨#[]⟩:ByteArray)⟩,(⟨#[]⟩:ByteArray),[]⟩ (cells43 ⟨(⟨#[99,111,117,110,116]⟩:ByteArray),⟨0,0,(⟨#[]⟩:ByteArray)⟩,(⟨#[]⟩:ByteArray),[]⟩ none 0) (fun q => w2.heap.size ≤ q) (fun _ => False) rfl rfl (FK43 (Nat.le_refl _) (Kd.F_nil _ _ _)) (fun q hq => hq.elim) (fun q hq => Nat.le_trans HBW.out.size hq) HOW.out HBW.out HBW.out.size (by have:=HLN.out;omega) ?_;intro v6 w6 ho hb hg hat;obtain ⟨A6,c6,rfl⟩:=Kd.N_slice ho;have HO6:=Aside0.mk ho;have HB6:=Aside0.mk hb;clear ho hb hg hat))
    go_roundg k1
    case measure => have:=HJ.out;omega
    case rel => exact ⟨j + 1,xs ++ [⟨(⟨#[99,111,117,110,116]⟩:ByteArray),⟨0,0,(⟨#[]⟩:ByteArray)⟩,(⟨#[]⟩:ByteArray),[]⟩],A6,c6,by first | rfl | (simp;done) | (rw [HLE.out];done),by first | (rw [hw1];done) | rfl | (simp;done),⟨by have:=HJ.out;omega⟩,⟨by rw [← HPE.out,HE.out]⟩,⟨by have:=HLN.out;first | omega | (simp;omega)⟩,HO6,HB6⟩
   by_cases k5:5 ≤ s.f0
   ·by_cases k10:s.f0 ≤ 10
    ·by_cases kn:0 < xs.length
     ·obtain ⟨m,hm⟩:∃ m,xs.length=m + 1:=⟨xs.length - 1,by omega⟩
      obtain ⟨g,cap,hv,hg1,hg2,cur,hcur⟩:=Kd.N_form HOW.out (by omega)
      injection hv with h1 h2 h3
      subst h3
      obtain ⟨ad,had⟩:∃ ad,ad=(⟨g,0,none⟩:Addr):=⟨_,rfl⟩
      rw [← had] at h1
      subst h1
      clear h2
      have HAD:=Aside0.mk had
      have HM:=Aside0.mk hm
      obtain ⟨q5,hq5⟩:∃ q:Nat,s.f0=(q:Int) + 5:=⟨(s.f0 - 5).toNat,by omega⟩
      have hql:q5 < 6:=by omega
      have hw5:wrap64 (s.f0 - 5)=(q5:Int):=by unfold wrap64;omega
      obtain ⟨aO,eO,hO⟩:=Kd.at_string (Kd.C_below HT2.out HBW.out) (q5:Int) (by omega) (by show (q5:Int) < ((6:Nat):Int);omega)
      subst eO
      simp only [Int.toNat_natCast] at hO
      obtain ⟨opS,hop⟩:∃ v,rdOf ByteArray.empty onesL (q5:Int)=v:=⟨_,rfl⟩
      rw [hop] at hO
      have hOP:onesL.getD (s.f0 - 5).toNat (⟨#[]⟩:ByteArray)=opS:=by rw [← hop,show (s.f0 - 5).toNat=q5 by omega];unfold rdOf;rw [Int.toNat_natCast];rfl
      have pO:(0 ≤ (q5:Int))=True:=eq_true (by omega)
      have qO:((q5:Int) < (onesL.length:Int))=True:=eq_true (by show (q5:Int) < ((6:Nat):Int);omega)
      clear hop hq5 hql
      have HE:=Aside0.mk (show stepE s xs=xs.set m ⟨opS,⟨0,0,(⟨#[]⟩:ByteArray)⟩,(⟨#[]⟩:ByteArray),[xs.getD m z43]⟩ by unfold stepE;rw [if_neg c0,if_neg c1,if_neg c2,if_neg c3,if_neg c4,if_pos (by omega),hOP,show xs.length - 1=m by omega])
      have b0:(s.f0 == 0)=false:=beq_eq_false_iff_ne.mpr c0
      have b1:(s.f0 == 1)=false:=beq_eq_false_iff_ne.mpr c1
      have b2:(s.f0 == 2)=false:=beq_eq_false_iff_ne.mpr c2
      have b3:(s.f0 == 3)=false:=beq_eq_false_iff_ne.mpr c3
      have b4:(s.f0 == 4)=false:=beq_eq_false_iff_ne.mpr c4
      have g1:decide (5 ≤ s.f0)=true:=decide_eq_true (by omega)
      have g2:decide (s.f0 ≤ 10)=true:=decide_eq_true (by omega)
      have g3:decide (0 < xs.length)=true:=decide_eq_true (by omega)
      have g3i:decide ((0:Int) < (xs.length:Int))=true:=decide_eq_true (by omega)
      have hwm:wrap64 ((xs.length:Int) - 1)=(m:Int):=by have:=HLN.out;unfold wrap64;omega
      have pm:(0 ≤ (m:Int))=True:=eq_true (by omega)
      have qm:((m:Int) < (xs.length:Int))=True:=eq_true (by omega)
      have HOPS:=Aside0.mk hOP
      clear hm had
      go_upto_region 23 with (fail)
      obtain ⟨Wd,hWd⟩:∃ v,v=W.drew:=⟨_,rfl⟩
      have HOG:Aside0 (Kd.N k43 43 Wd w2.heap.size (fun q => w2.heap.size ≤ q) (.slice (some ⟨g,0,none⟩) xs.length cx) xs):=⟨by rw [← HAD.out,hWd];exact Kd.N_drew HOW.out⟩
      have HBD:Aside0 (Below w2.heap.size w2 Wd):=⟨by rw [hWd];exact below_drew1 HBW.out⟩
      have td:Wd.cell? ⟨sb,0,none⟩=some (.int .i64 s.f0):=by rw [hWd];exact t0
      have hOd:Wd.cell? (aO.add q5)=some (.string opS):=by rw [hWd];exact hO
      obtain ⟨qx,qclx,qKx,qcx,qfx⟩:=Kd.N_elem HOG.out z43 ((m:Nat):Int) (by omega) (by have:=HM.out;omega)
      obtain ⟨y,hy⟩:∃ y,xs.getD m z43=y:=⟨_,rfl⟩
      rw [Int.toNat_natCast,hy] at qKx
      simp only [Int.toNat_natCast] at qcx qfx
      obtain ⟨A5,c5,rfl,qlx,qFx⟩:=k43_openF qKx
      have x0:Wd.cell? (ad.add (m * 6))=some (.string y.f0):=by rw [HAD.out,add_plain];exact qcx 0 _ rfl
      have x1:Wd.cell? ⟨(ad.add (m * 6)).block,(ad.add (m * 6)).off + 1,none⟩=some (.int .i64 y.f1.f0):=by rw [HAD.out,add_plain];exact qcx 1 _ rfl
      have x2:Wd.cell? ⟨(ad.add (m * 6)).block,(ad.add (m * 6)).off + 2,none⟩=some (.int .i64 y.f1.f1):=by rw [HAD.out,add_plain];exact qcx 2 _ rfl
      have x3:Wd.cell? ⟨(ad.add (m * 6)).block,(ad.add (m * 6)).off + 3,none⟩=some (.string y.f1.f2):=by rw [HAD.out,add_plain];exact qcx 3 _ rfl
      have x4:Wd.cell? ⟨(ad.add (m * 6)).block,(ad.add (m * 6)).off + 4,none⟩=some (.string y.f2):=by rw [HAD.out,add_plain];exact qcx 4 _ rfl
      have x5:Wd.cell? ⟨(ad.add (m * 6)).block,(ad.add (m * 6)).off + 5,none⟩=some (.slice A5 y.f3.length c5):=by rw [HAD.out,add_plain];exact qcx 5 _ rfl
      have QLx:=Aside0.mk qlx
      have QFx:=Aside0.mk qFx
      have QCx:=Aside0.mk qcx
      have QYx:=Aside0.mk hy
      clear qclx qKx qcx qfx qlx qFx hy
      refine start_ (n:=18) (S:=fun w' => w'.cell? ⟨sb,0,none⟩=some (.int .i64 s.f0)∧w'.cell? (aO.add q5)=some (.string opS)∧w'.cell? (ad.add (m * 6))=some (.string y.f0)∧w'.cell? ⟨(ad.add (m * 6)).block,(ad.add (m * 6)).off + 1,none⟩=some (.int .i64 y.f1.f0)∧w'.cell? ⟨(ad.add (m * 6)).block,(ad.add (m * 6)).off + 2,none⟩=some (.int .i64 y.f1.f1)∧w'.cell? ⟨(ad.add (m * 6)).block,(ad.add (m * 6)).off + 3,none⟩=some (.string y.f1.f2)∧w'.cell? ⟨(ad.add (m * 6)).block,(ad.add (m * 6)).off + 4,none⟩=some (.string y.f2)∧w'.cell? ⟨(ad.add (m * 6)).block,(ad.add (m * 6)).off + 5,none⟩=some (.slice A5 y.f3.length c5)) (ds:=[17]) #[false,false,false,false,false,false,false,false,false,false,false,false,false,false,false,false,false,false] (by kernel_rfl) rfl rfl (hWd ▸ ⟨td,hOd,x0,x1,x2,x3,x4,x5⟩) (fun hHeld => ?_)
      rw [← hWd] at hHeld ⊢
      clear hWd HOW
      refine pure_ (i:=0) (N:=some 91) (v:=?_) (a':=?_) #[true,false,false,false,false,false,false,false,false,false,false,false,false,false,false,false,false,false] rfl rfl (by kernel_rfl) (fun _ _ _ h => h) (Or.inl ⟨by rfl,?_⟩) ?_ ?_
      rotate_left
      ·intro w'
       go_simp
       with_reducible rfl
      rotate_left
      ·simp only [Act.put,List.setIfInBounds_toArray,List.set_cons_zero,List.set_cons_succ,i64_w,i32_w]
       rfl
      refine pure_ (i:=1) (N:=some 92) (v:=?_) (a':=?_) #[true,true,false,false,false,false,false,false,false,false,false,false,false,false,false,false,false,false] rfl rfl (by kernel_rfl) (fun _ _ _ h => h) (Or.inl ⟨by rfl,?_⟩) ?_ ?_
      rotate_left
      ·intro w'
       go_simp
       with_reducible rfl
      rotate_left
      ·simp only [Act.put,List.setIfInBounds_toArray,List.set_cons_zero,List.set_cons_succ,i64_w,i32_w]
       rfl
      refine pure_ (i:=2) (N:=some 93) (v:=?_) (a':=?_) #[true,true,true,false,false,false,false,false,false,false,false,false,false,false,false,false,false,false] rfl rfl (by kernel_rfl) (fun _ _ _ h => h) (Or.inl ⟨by rfl,?_⟩) ?_ ?_
      rotate_left
      ·intro w'
       go_simp
       with_reducible rfl
      rotate_left
      ·simp only [Act.put,List.setIfInBounds_toArray,List.set_cons_zero,List.set_cons_succ,i64_w,i32_w]
       rfl
      refine pure_ (i:=3) (N:=some 94) (v:=?_) (a':=?_) #[true,true,true,true,false,false,false,false,false,false,false,false,false,false,false,false,false,false] rfl rfl (by kernel_rfl) (fun _ _ _ h => h) (Or.inl ⟨by rfl,?_⟩) ?_ ?_
      rotate_left
      ·intro w'
       go_simp
       with_reducible rfl
      rotate_left
      ·simp only [Act.put,List.setIfInBounds_toArray,List.set_cons_zero,List.set_cons_succ,i64_w,i32_w]
       rfl
      refine pure_ (i:=4) (N:=some 95) (v:=?_) (a':=?_) #[true,true,true,true,true,false,false,false,false,false,false,false,false,false,false,false,false,false] rfl rfl (by kernel_rfl) (fun _ _ _ h => h) (Or.inl ⟨by rfl,?_⟩) ?_ ?_
      rotate_left
      ·intro w'
       go_simp
       with_reducible rfl
      rotate_left
      ·simp only [Act.put,List.setIfInBounds_toArray,List.set_cons_zero,List.set_cons_succ,i64_w,i32_w]
       rfl
      refine take_ (i:=5) (N:=some 96) (v:=?_) (a':=?_) #[true,true,true,true,true,true,false,false,false,false,false,false,false,false,false,false,false,false] rfl rfl (by kernel_rfl) (fun _ _ _ h => h) (Or.inl ⟨by rfl,?_⟩) hHeld ?_ ?_
      rotate_left
      ·rintro w' ⟨s0,s1,s2,s3,s4,s5,s6,s7⟩
       go_simp
       with_reducible rfl
      rotate_left
      ·simp only [Act.put,List.setIfInBounds_toArray,List.set_cons_zero,List.set_cons_succ,i64_w,i32_w]
       rfl
      refine pure_ (i:=6) (N:=some 97) (v:=?_) (a':=?_) #[true,true,true,true,true,true,true,false,false,false,false,false,false,false,false,false,false,false] rfl rfl (by kernel_rfl) (fun _ _ _ h => h) (Or.inl ⟨by rfl,?_⟩) ?_ ?_
      rotate_left
      ·intro w'
       go_simp
       with_reducible rfl
      rotate_left
      ·simp only [Act.put,List.setIfInBounds_toArray,List.set_cons_zero,List.set_cons_succ,i64_w,i32_w]
       rfl
      refine pure_ (i:=7) (N:=some 98) (v:=?_) (a':=?_) #[true,true,true,true,true,true,true,true,false,false,false,false,false,false,false,false,false,false] rfl rfl (by kernel_rfl) (fun _ _ _ h => h) (Or.inl ⟨by rfl,?_⟩) ?_ ?_
      rotate_left
      ·intro w'
       go_simp
       with_reducible rfl
      rotate_left
      ·simp only [Act.put,List.setIfInBounds_toArray,List.set_cons_zero,List.set_cons_succ,i64_w,i32_w]
       rfl
      refine take_ (i:=8) (N:=some 99) (v:=?_) (a':=?_) #[true,true,true,true,true,true,true,true,true,false,false,false,false,false,false,false,false,false] rfl rfl (by kernel_rfl) (fun _ _ _ h => h) (Or.inl ⟨by rfl,?_⟩) hHeld ?_ ?_
      rotate_left
      ·rintro w' ⟨s0,s1,s2,s3,s4,s5,s6,s7⟩
       go_simp
       with_reducible rfl
      rotate_left
      ·simp only [Act.put,List.setIfInBounds_toArray,List.set_cons_zero,List.set_cons_succ,i64_w,i32_w]
       rfl
      refine pure_ (i:=9) (N:=some 100) (v:=?_) (a':=?_) #[true,true,true,true,true,true,true,true,true,true,false,false,false,false,false,false,false,false] rfl rfl (by kernel_rfl) (fun _ _ _ h => h) (Or.inl ⟨by rfl,?_⟩) ?_ ?_
      rotate_left
      ·intro w'
       go_simp
       with_reducible rfl
      rotate_left
      ·simp only [Act.put,List.setIfInBounds_toArray,List.set_cons_zero,List.set_cons_succ,i64_w,i32_w]
       rfl
      refine pure_ (i:=10) (N:=some 101) (v:=?_) (a':=?_) #[true,true,true,true,true,true,true,true,true,true,true,false,false,false,false,false,false,false] rfl rfl (by kernel_rfl) (fun _ _ _ h => h) (Or.inl ⟨by rfl,?_⟩) ?_ ?_
      rotate_left
      ·intro w'
       go_simp
       with_reducible rfl
      rotate_left
      ·simp only [Act.put,List.setIfInBounds_toArray,List.set_cons_zero,List.set_cons_succ,i64_w,i32_w]
       rfl
      refine pure_ (i:=11) (N:=some 102) (v:=?_) (a':=?_) #[true,true,true,true,true,true,true,true,true,true,true,true,false,false,false,false,false,false] rfl rfl (by kernel_rfl) (fun _ _ _ h => h) (Or.inl ⟨by rfl,?_⟩) ?_ ?_
      rotate_left
      ·intro w'
       go_simp
       with_reducible rfl
      rotate_left
      ·simp only [Act.put,List.setIfInBounds_toArray,List.set_cons_zero,List.set_cons_succ,i64_w,i32_w]
       rfl
      refine pure_ (i:=12) (N:=some 103) (v:=?_) (a':=?_) #[true,true,true,true,true,true,true,true,true,true,true,true,true,false,false,false,false,false] rfl rfl (by kernel_rfl) (fun _ _ _ h => h) (Or.inl ⟨by rfl,?_⟩) ?_ ?_
      rotate_left
      ·intro w'
       go_simp
       with_reducible rfl
      rotate_left
      ·simp only [Act.put,List.setIfInBounds_toArray,List.set_cons_zero,List.set_cons_succ,i64_w,i32_w]
       rfl
      refine take_ (i:=13) (N:=some 104) (v:=?_) (a':=?_) #[true,true,true,true,true,true,true,true,true,true,true,true,true,true,false,false,false,false] rfl rfl (by kernel_rfl) (fun _ _ _ h => h) (Or.inl ⟨by rfl,?_⟩) hHeld ?_ ?_
      rotate_left
      ·rintro w' ⟨s0,s1,s2,s3,s4,s5,s6,s7⟩
       go_simp
       with_reducible rfl
      rotate_left
      ·simp only [Act.put,List.setIfInBounds_toArray,List.set_cons_zero,List.set_cons_succ,i64_w,i32_w]
       rfl
      refine one_ (i:=14) (N:=some 105) #[true,true,true,true,true,true,true,true,true,true,true,true,true,true,true,false,false,false] rfl rfl (by kernel_rfl) (by decide) (fun K hK => ?_)
      refine value_ (v:=.slice (some ⟨Wd.heap.size,0,none⟩) 1 1) (w1:=Wd.alloc (.cells (cells43 y A5 c5).toArray 43)) (by rfl) rfl ?_ ?_
      ·unfold cells43
       go_simp
      have HBA:=Aside0.mk (below_alloc (Below.refl Wd.heap.size Wd) (.cells (cells43 y A5 c5).toArray 43))
      refine hK.out _ _ ⟨pw_cell_below HBA.out td,pw_cell_below HBA.out hOd,pw_cell_below HBA.out x0,pw_cell_below HBA.out x1,pw_cell_below HBA.out x2,pw_cell_below HBA.out x3,pw_cell_below HBA.out x4,pw_cell_below HBA.out x5⟩ (fun hHeld => ?_)
      clear hK K
      refine norm_ (a':=?_) ?_ ?_
      rotate_left
      ·show Act.put _ (some 105) _=_
       simp only [Act.put,List.setIfInBounds_toArray,List.set_cons_zero,List.set_cons_succ,i64_w,i32_w]
       rfl
      refine pure_ (i:=15) (N:=some 106) (v:=?_) (a':=?_) #[true,true,true,true,true,true,true,true,true,true,true,true,true,true,true,true,false,false] rfl rfl (by kernel_rfl) (fun _ _ _ h => h) (Or.inl ⟨by rfl,?_⟩) ?_ ?_
      rotate_left
      ·intro w'
       go_simp
       with_reducible rfl
      rotate_left
      ·simp only [Act.put,List.setIfInBounds_toArray,List.set_cons_zero,List.set_cons_succ,i64_w,i32_w]
       rfl
      refine pure_ (i:=16) (N:=some 107) (v:=?_) (a':=?_) #[true,true,true,true,true,true,true,true,true,true,true,true,true,true,true,true,true,false] rfl rfl (by kernel_rfl) (fun _ _ _ h => h) (Or.inl ⟨by rfl,?_⟩) ?_ ?_
      rotate_left
      ·intro w'
       go_simp
       with_reducible rfl
      rotate_left
      ·simp only [Act.put,List.setIfInBounds_toArray,List.set_cons_zero,List.set_cons_succ,i64_w,i32_w]
       rfl
      refine last_ (i:=17) (N:=none) #[true,true,true,true,true,true,true,true,true,true,true,true,true,true,true,true,true,true] rfl rfl (by kernel_rfl) (by decide) (fun K hK => ?_)
      obtain ⟨P,hP⟩:∃ P:S43,P=⟨opS,⟨0,0,(⟨#[]⟩:ByteArray)⟩,(⟨#[]⟩:ByteArray),[y]⟩:=⟨_,rfl⟩
      have hNA:=Kd.N_alloc HOG.out (.cells (cells43 y A5 c5).toArray 43)
      have hFy:Kd.F k43 (Wd.alloc (.cells (cells43 y A5 c5).toArray 43)) (fun q => w2.heap.size ≤ q∧q ≠ g) (some ⟨Wd.heap.size,0,none⟩) [y].length [y]:=F_one (new_blk (W:=Wd) (.cells (cells43 y A5 c5).toArray 43) rfl) ⟨HBD.out.size,by have:=Kd.N_lt HOG.out g rfl;omega⟩ QLx.out (Kd.F_alloc QFx.out _)
      have hseg:=Kd.N_seg hNA (m:Int) (by omega) (by have:=HM.out;omega) (c:=cells43 y A5 c5) (seg:=cells43 P (some ⟨Wd.heap.size,0,none⟩) 1) (j:=0) (x':=P) (okp:=fun q => w2.heap.size ≤ q∧q ≠ g) rfl (fun k u hu => pw_cell_below HBA.out (by rw [Int.toNat_natCast];exact QCx.out k u hu)) (Nat.le_refl _) (by subst hP;exact FK43 (Nat.le_refl _) hFy) (fun _ hk => hk)
      rw [Int.toNat_natCast] at hseg
      obtain ⟨hN3,hg3⟩:=hseg
      have HN3:=Aside0.mk hN3
      have HB3:=Aside0.mk ((below_alloc HBD.out (.cells (cells43 y A5 c5).toArray 43)).grown hg3 (Nat.le_trans HBD.out.size (by simp)) (fun k hk => by injection hk with hk;omega))
      obtain ⟨cur2,hcur2⟩:=Kd.N_typed hNA g rfl
      have hfit:m * k43.sz + 0 + 6 ≤ cur2.size:=by
       have h5:=pw_cell_below HBA.out (QCx.out 5 _ rfl)
       rw [blk_cell hcur2] at h5
       have h6:m * 6 + 5 < cur2.size:=(Array.getElem?_eq_some_iff.1 h5).1
       show m * 6 + 0 + 6 ≤ cur2.size
       omega
      have hrun:(Instr.storeAt 43 (.pointer (some (ad.add (m * 6)))) (.agg (cells43 P (some ⟨Wd.heap.size,0,none⟩) 1).toArray)).run Tryz.prog (Wd.alloc (.cells (cells43 y A5 c5).toArray 43)) = .ok () ((Wd.alloc (.cells (cells43 y A5 c5).toArray 43)).setCells g (m * k43.sz + 0) (cells43 P (some ⟨Wd.heap.size,0,none⟩) 1)):=by
       rw [HAD.out,add_plain]
       exact run_store_run 43 _ _ hcur2 rfl (by kernel_rfl) hfit (by intro q hq;simp only [cells43,List.mem_cons,List.not_mem_nil,or_false] at hq;rcases hq with rfl | rfl | rfl | rfl | rfl | rfl <;> rfl)
      subst hP
      refine skip_ (by rfl) rfl (store_run (u:=.agg (cells43 ⟨opS,⟨0,0,(⟨#[]⟩:ByteArray)⟩,(⟨#[]⟩:ByteArray),[y]⟩ (some ⟨Wd.heap.size,0,none⟩) 1).toArray) rfl rfl rfl hrun) ?_
      refine hK.out _ _ ?_
      clear hK K hrun hfit hg3 hN3 hFy hcur2 hNA
      generalize (Wd.alloc (.cells (cells43 y A5 c5).toArray 43)).setCells g (m * k43.sz + 0) (cells43 ⟨opS,⟨0,0,(⟨#[]⟩:ByteArray)⟩,(⟨#[]⟩:ByteArray),[y]⟩ (some ⟨Wd.heap.size,0,none⟩) 1)=W3 at HN3 HB3 ⊢
      rw [← HAD.out] at HN3
      refine done_ (by kernel_rfl) ?_
      go_wp2
      have HLE:=Aside0.mk (show (xs.set m (⟨opS,⟨0,0,(⟨#[]⟩:ByteArray)⟩,(⟨#[]⟩:ByteArray),[y]⟩:S43)).length=xs.length from List.length_set)
      go_roundg k1
      case measure => have:=HJ.out;omega
      case rel =>
       refine ⟨j + 1,xs.set m ⟨opS,⟨0,0,(⟨#[]⟩:ByteArray)⟩,(⟨#[]⟩:ByteArray),[y]⟩,some ad,cx,by rw [HLE.out],by first | (rw [hw1];done) | rfl | (simp;done),⟨by have:=HJ.out;omega⟩,⟨by rw [← HPE.out,HE.out,QYx.out]⟩,⟨by rw [HLE.out];have:=HLN.out;omega⟩,?_,HB3⟩
       rw [HLE.out]
       exact HN3
     ·have HE:=Aside0.mk (show stepE s xs=xs by unfold stepE;rw [if_neg c0,if_neg c1,if_neg c2,if_neg c3,if_neg c4,if_neg (by omega),if_neg (by omega)])
      have b0:(s.f0 == 0)=false:=beq_eq_false_iff_ne.mpr c0
      have b1:(s.f0 == 1)=false:=beq_eq_false_iff_ne.mpr c1
      have b2:(s.f0 == 2)=false:=beq_eq_false_iff_ne.mpr c2
      have b3:(s.f0 == 3)=false:=beq_eq_false_iff_ne.mpr c3
      have b4:(s.f0 == 4)=false:=beq_eq_false_iff_ne.mpr c4
      have g1:decide (5 ≤ s.f0)=true:=decide_eq_true (by omega)
      have g2:decide (s.f0 ≤ 10)=true:=decide_eq_true (by omega)
      have g3:decide (0 < xs.length)=false:=decide_eq_false (by omega)
      have g3i:decide ((0:Int) < (xs.length:Int))=false:=decide_eq_false (by omega)
      have g4:decide (11 ≤ s.f0)=false:=decide_eq_false (by omega)
      clear k5 k10 kn
      clear c0 c1 c2 c3 c4
      go_wp2
      go_roundg k1
      case measure => have:=HJ.out;omega
      case rel => exact ⟨j + 1,xs,Ax,cx,by first | rfl | (simp;done) | (rw [HLE.out];done),by first | (rw [hw1];done) | rfl | (simp;done),⟨by have:=HJ.out;omega⟩,⟨by rw [← HPE.out,HE.out]⟩,⟨by have:=HLN.out;first | omega | (simp;omega)⟩,HOW,HBW⟩
    ·by_cases k25:s.f0 < 25
     ·by_cases kn:1 < xs.length
      ·obtain ⟨m,hm⟩:∃ m,xs.length=m + 2:=⟨xs.length - 2,by omega⟩
       obtain ⟨g,cap,hv,hg1,hg2,cur,hcur⟩:=Kd.N_form HOW.out (by omega)
       injection hv with h1 h2 h3
       subst h3
       obtain ⟨ad,had⟩:∃ ad,ad=(⟨g,0,none⟩:Addr):=⟨_,rfl⟩
       rw [← had] at h1
       subst h1
       clear h2
       have HAD:=Aside0.mk had
       have HM:=Aside0.mk hm
       obtain ⟨q5,hq5⟩:∃ q:Nat,s.f0=(q:Int) + 11:=⟨(s.f0 - 11).toNat,by omega⟩
       have hql:q5 < 14:=by omega
       have hw5:wrap64 (s.f0 - 11)=(q5:Int):=by unfold wrap64;omega
       obtain ⟨aO,eO,hO⟩:=Kd.at_string (Kd.C_below HT1.out HBW.out) (q5:Int) (by omega) (by show (q5:Int) < ((14:Nat):Int);omega)
       subst eO
       simp only [Int.toNat_natCast] at hO
       obtain ⟨opS,hop⟩:∃ v,rdOf ByteArray.empty twosL (q5:Int)=v:=⟨_,rfl⟩
       rw [hop] at hO
       have hOP:twosL.getD (s.f0 - 11).toNat (⟨#[]⟩:ByteArray)=opS:=by rw [← hop,show (s.f0 - 11).toNat=q5 by omega];unfold rdOf;rw [Int.toNat_natCast];rfl
       have pO:(0 ≤ (q5:Int))=True:=eq_true (by omega)
       have qO:((q5:Int) < (twosL.length:Int))=True:=eq_true (by show (q5:Int) < ((14:Nat):Int);omega)
       clear hop hq5 hql
       have HE:=Aside0.mk (show stepE s xs=xs.take m ++ [⟨opS,⟨0,0,(⟨#[]⟩:ByteArray)⟩,(⟨#[]⟩:ByteArray),[xs.getD m z43,xs.getD (m + 1) z43]⟩] by unfold stepE;rw [if_neg c0,if_neg c1,if_neg c2,if_neg c3,if_neg c4,if_neg (by omega),if_pos (by omega),hOP,show xs.length - 2=m by omega,show xs.length - 1=m + 1 by omega])
       have b0:(s.f0 == 0)=false:=beq_eq_false_iff_ne.mpr c0
       have b1:(s.f0 == 1)=false:=beq_eq_false_iff_ne.mpr c1
       have b2:(s.f0 == 2)=false:=beq_eq_false_iff_ne.mpr c2
       have b3:(s.f0 == 3)=false:=beq_eq_false_iff_ne.mpr c3
       have b4:(s.f0 == 4)=false:=beq_eq_false_iff_ne.mpr c4
       have g1:decide (5 ≤ s.f0)=true:=decide_eq_true (by omega)
       have g2:decide (s.f0 ≤ 10)=false:=decide_eq_false (by omega)
       have g4:decide (11 ≤ s.f0)=true:=decide_eq_true (by omega)
       have g5:decide (s.f0 < 25)=true:=decide_eq_true (by omega)
       have g6:decide (1 < xs.length)=true:=decide_eq_true (by omega)
       have g6i:decide ((1:Int) < (xs.length:Int))=true:=decide_eq_true (by omega)
       obtain ⟨m1,hm1⟩:∃ v,v=m + 1:=⟨_,rfl⟩
       have hwm:wrap64 ((xs.length:Int) - 2)=(m:Int):=by have:=HLN.out;unfold wrap64;omega
       have hwm1:wrap64 ((xs.length:Int) - 1)=(m1:Int):=by have:=HLN.out;unfold wrap64;omega
       have hcx:=(Kd.N_reads' HOW.out).2.1
       have pm:(0 ≤ (m:Int))=True:=eq_true (by omega)
       have qm:((m:Int) < (xs.length:Int))=True:=eq_true (by omega)
       have pm1:(0 ≤ (m1:Int))=True:=eq_true (by omega)
       have qm1:((m1:Int) < (xs.length:Int))=True:=eq_true (by omega)
       have rm:((m:Int) ≤ (cx:Int))=True:=eq_true (by omega)
       have rmn:(m ≤ cx)=True:=eq_true (by omega)
       have HM1:=Aside0.mk hm1
       rw [← hm1] at HE
       clear hm1 hcx
       clear hm had
       go_upto_region 25 with (fail)
       obtain ⟨Wd,hWd⟩:∃ v,v=W.drew:=⟨_,rfl⟩
       have HOG:Aside0 (Kd.N k43 43 Wd w2.heap.size (fun q => w2.heap.size ≤ q) (.slice (some ⟨g,0,none⟩) xs.length cx) xs):=⟨by rw [← HAD.out,hWd];exact Kd.N_drew HOW.out⟩
       have HBD:Aside0 (Below w2.heap.size w2 Wd):=⟨by rw [hWd];exact below_drew1 HBW.out⟩
       have td:Wd.cell? ⟨sb,0,none⟩=some (.int .i64 s.f0):=by rw [hWd];exact t0
       have hOd:Wd.cell? (aO.add q5)=some (.string opS):=by rw [hWd];exact hO
       obtain ⟨qx,qclx,qKx,qcx,qfx⟩:=Kd.N_elem HOG.out z43 ((m:Nat):Int) (by omega) (by have:=HM.out;omega)
       obtain ⟨y,hy⟩:∃ y,xs.getD m z43=y:=⟨_,rfl⟩
       rw [Int.toNat_natCast,hy] at qKx
       simp only [Int.toNat_natCast] at qcx qfx
       obtain ⟨A5,c5,rfl,qlx,qFx⟩:=k43_openF qKx
       have x0:Wd.cell? (ad.add (m * 6))=some (.string y.f0):=by rw [HAD.out,add_plain];exact qcx 0 _ rfl
       have x1:Wd.cell? ⟨(ad.add (m * 6)).block,(ad.add (m * 6)).off + 1,none⟩=some (.int .i64 y.f1.f0):=by rw [HAD.out,add_plain];exact qcx 1 _ rfl
       have x2:Wd.cell? ⟨(ad.add (m * 6)).block,(ad.add (m * 6)).off + 2,none⟩=some (.int .i64 y.f1.f1):=by rw [HAD.out,add_plain];exact qcx 2 _ rfl
       have x3:Wd.cell? ⟨(ad.add (m * 6)).block,(ad.add (m * 6)).off + 3,none⟩=some (.string y.f1.f2):=by rw [HAD.out,add_plain];exact qcx 3 _ rfl
       have x4:Wd.cell? ⟨(ad.add (m * 6)).block,(ad.add (m * 6)).off + 4,none⟩=some (.string y.f2):=by rw [HAD.out,add_plain];exact qcx 4 _ rfl
       have x5:Wd.cell? ⟨(ad.add (m * 6)).block,(ad.add (m * 6)).off + 5,none⟩=some (.slice A5 y.f3.length c5):=by rw [HAD.out,add_plain];exact qcx 5 _ rfl
       have QLx:=Aside0.mk qlx
       have QFx:=Aside0.mk qFx
       have QCx:=Aside0.mk qcx
       have QYx:=Aside0.mk hy
       clear qclx qKx qcx qfx qlx qFx hy
       obtain ⟨qu,qclu,qKu,qcu,qfu⟩:=Kd.N_elem HOG.out z43 ((m1:Nat):Int) (by omega) (by have:=HM.out;have:=HM1.out;omega)
       obtain ⟨z,hz⟩:∃ y,xs.getD m1 z43=y:=⟨_,rfl⟩
       rw [Int.toNat_natCast,hz] at qKu
       simp only [Int.toNat_natCast] at qcu qfu
       obtain ⟨A6,c6,rfl,qlu,qFu⟩:=k43_openF qKu
       have u0:Wd.cell? (ad.add (m1 * 6))=some (.string z.f0):=by rw [HAD.out,add_plain];exact qcu 0 _ rfl
       have u1:Wd.cell? ⟨(ad.add (m1 * 6)).block,(ad.add (m1 * 6)).off + 1,none⟩=some (.int .i64 z.f1.f0):=by rw [HAD.out,add_plain];exact qcu 1 _ rfl
       have u2:Wd.cell? ⟨(ad.add (m1 * 6)).block,(ad.add (m1 * 6)).off + 2,none⟩=some (.int .i64 z.f1.f1):=by rw [HAD.out,add_plain];exact qcu 2 _ rfl
       have u3:Wd.cell? ⟨(ad.add (m1 * 6)).block,(ad.add (m1 * 6)).off + 3,none⟩=some (.string z.f1.f2):=by rw [HAD.out,add_plain];exact qcu 3 _ rfl
       have u4:Wd.cell? ⟨(ad.add (m1 * 6)).block,(ad.add (m1 * 6)).off + 4,none⟩=some (.string z.f2):=by rw [HAD.out,add_plain];exact qcu 4 _ rfl
       have u5:Wd.cell? ⟨(ad.add (m1 * 6)).block,(ad.add (m1 * 6)).off + 5,none⟩=some (.slice A6 z.f3.length c6):=by rw [HAD.out,add_plain];exact qcu 5 _ rfl
       have QLu:=Aside0.mk qlu
       have QFu:=Aside0.mk qFu
       have QCu:=Aside0.mk qcu
       have QYu:=Aside0.mk hz
       clear qclu qKu qcu qfu qlu qFu hz
       refine start_ (n:=25) (S:=fun w' => w'.cell? ⟨sb,0,none⟩=some (.int .i64 s.f0)∧w'.cell? (aO.add q5)=some (.string opS)∧w'.cell? (ad.add (m * 6))=some (.string y.f0)∧w'.cell? ⟨(ad.add (m * 6)).block,(ad.add (m * 6)).off + 1,none⟩=some (.int .i64 y.f1.f0)∧w'.cell? ⟨(ad.add (m * 6)).block,(ad.add (m * 6)).off + 2,none⟩=some (.int .i64 y.f1.f1)∧w'.cell? ⟨(ad.add (m * 6)).block,(ad.add (m * 6)).off + 3,none⟩=some (.string y.f1.f2)∧w'.cell? ⟨(ad.add (m * 6)).block,(ad.add (m * 6)).off + 4,none⟩=some (.string y.f2)∧w'.cell? ⟨(ad.add (m * 6)).block,(ad.add (m * 6)).off + 5,none⟩=some (.slice A5 y.f3.length c5)∧w'.cell? (ad.add (m1 * 6))=some (.string z.f0)∧w'.cell? ⟨(ad.add (m1 * 6)).block,(ad.add (m1 * 6)).off + 1,none⟩=some (.int .i64 z.f1.f0)∧w'.cell? ⟨(ad.add (m1 * 6)).block,(ad.add (m1 * 6)).off + 2,none⟩=some (.int .i64 z.f1.f1)∧w'.cell? ⟨(ad.add (m1 * 6)).block,(ad.add (m1 * 6)).off + 3,none⟩=some (.string z.f1.f2)∧w'.cell? ⟨(ad.add (m1 * 6)).block,(ad.add (m1 * 6)).off + 4,none⟩=some (.string z.f2)∧w'.cell? ⟨(ad.add (m1 * 6)).block,(ad.add (m1 * 6)).off + 5,none⟩=some (.slice A6 z.f3.length c6)) (ds:=[23]) #[false,false,false,false,false,false,false,false,false,false,false,false,false,false,false,false,false,false,false,false,false,false,false,false,false] (by kernel_rfl) rfl rfl (hWd ▸ ⟨td,hOd,x0,x1,x2,x3,x4,x5,u0,u1,u2,u3,u4,u5⟩) (fun hHeld => ?_)
       rw [← hWd] at hHeld ⊢
       clear hWd HOW
       refine pure_ (i:=0) (N:=some 121) (v:=?_) (a':=?_) #[true,false,false,false,false,false,false,false,false,false,false,false,false,false,false,false,false,false,false,false,false,false,false,false,false] rfl rfl (by kernel_rfl) (fun _ _ _ h => h) (Or.inl ⟨by rfl,?_⟩) ?_ ?_
       rotate_left
       ·intro w'
        go_simp
        with_reducible rfl
       rotate_left
       ·simp only [Act.put,List.setIfInBounds_toArray,List.set_cons_zero,List.set_cons_succ,i64_w,i32_w]
        rfl
       refine pure_ (i:=1) (N:=some 122) (v:=?_) (a':=?_) #[true,true,false,false,false,false,false,false,false,false,false,false,false,false,false,false,false,false,false,false,false,false,false,false,false] rfl rfl (by kernel_rfl) (fun _ _ _ h => h) (Or.inl ⟨by rfl,?_⟩) ?_ ?_
       rotate_left
       ·intro w'
        go_simp
        with_reducible rfl
       rotate_left
       ·simp only [Act.put,List.setIfInBounds_toArray,List.set_cons_zero,List.set_cons_succ,i64_w,i32_w]
        rfl
       refine pure_ (i:=2) (N:=some 123) (v:=?_) (a':=?_) #[true,true,true,false,false,false,false,false,false,false,false,false,false,false,false,false,false,false,false,false,false,false,false,false,false] rfl rfl (by kernel_rfl) (fun _ _ _ h => h) (Or.inl ⟨by rfl,?_⟩) ?_ ?_
       rotate_left
       ·intro w'
        go_simp
        with_reducible rfl
       rotate_left
       ·simp only [Act.put,List.setIfInBounds_toArray,List.set_cons_zero,List.set_cons_succ,i64_w,i32_w]
        rfl
       refine pure_ (i:=3) (N:=some 124) (v:=?_) (a':=?_) #[true,true,true,true,false,false,false,false,false,false,false,false,false,false,false,false,false,false,false,false,false,false,false,false,false] rfl rfl (by kernel_rfl) (fun _ _ _ h => h) (Or.inl ⟨by rfl,?_⟩) ?_ ?_
       rotate_left
       ·intro w'
        go_simp
        with_reducible rfl
       rotate_left
       ·simp only [Act.put,List.setIfInBounds_toArray,List.set_cons_zero,List.set_cons_succ,i64_w,i32_w]
        rfl
       refine pure_ (i:=4) (N:=some 125) (v:=?_) (a':=?_) #[true,true,true,true,true,false,false,false,false,false,false,false,false,false,false,false,false,false,false,false,false,false,false,false,false] rfl rfl (by kernel_rfl) (fun _ _ _ h => h) (Or.inl ⟨by rfl,?_⟩) ?_ ?_
       rotate_left
       ·intro w'
        go_simp
        with_reducible rfl
       rotate_left
       ·simp only [Act.put,List.setIfInBounds_toArray,List.set_cons_zero,List.set_cons_succ,i64_w,i32_w]
        rfl
       refine pure_ (i:=5) (N:=some 126) (v:=?_) (a':=?_) #[true,true,true,true,true,true,false,false,false,false,false,false,false,false,false,false,false,false,false,false,false,false,false,false,false] rfl rfl (by kernel_rfl) (fun _ _ _ h => h) (Or.inl ⟨by rfl,?_⟩) ?_ ?_
       rotate_left
       ·intro w'
        go_simp
        with_reducible rfl
       rotate_left
       ·simp only [Act.put,List.setIfInBounds_toArray,List.set_cons_zero,List.set_cons_succ,i64_w,i32_w]
        rfl
       refine take_ (i:=6) (N:=some 127) (v:=?_) (a':=?_) #[true,true,true,true,true,true,true,false,false,false,false,false,false,false,false,false,false,false,false,false,false,false,false,false,false] rfl rfl (by kernel_rfl) (fun _ _ _ h => h) (Or.inl ⟨by rfl,?_⟩) hHeld ?_ ?_
       rotate_left
       ·rintro w' ⟨s0,s1,s2,s3,s4,s5,s6,s7,s8,s9,s10,s11,s12,s13⟩
        go_simp
        with_reducible rfl
       rotate_left
       ·simp only [Act.put,List.setIfInBounds_toArray,List.set_cons_zero,List.set_cons_succ,i64_w,i32_w]
        rfl
       refine pure_ (i:=7) (N:=some 128) (v:=?_) (a':=?_) #[true,true,true,true,true,true,true,true,false,false,false,false,false,false,false,false,false,false,false,false,false,false,false,false,false] rfl rfl (by kernel_rfl) (fun _ _ _ h => h) (Or.inl ⟨by rfl,?_⟩) ?_ ?_
       rotate_left
       ·intro w'
        go_simp
        with_reducible rfl
       rotate_left
       ·simp only [Act.put,List.setIfInBounds_toArray,List.set_cons_zero,List.set_cons_succ,i64_w,i32_w]
        rfl
       refine pure_ (i:=8) (N:=some 129) (v:=?_) (a':=?_) #[true,true,true,true,true,true,true,true,true,false,false,false,false,false,false,false,false,false,false,false,false,false,false,false,false] rfl rfl (by kernel_rfl) (fun _ _ _ h => h) (Or.inl ⟨by rfl,?_⟩) ?_ ?_
       rotate_left
       ·intro w'
        go_simp
        with_reducible rfl
       rotate_left
       ·simp only [Act.put,List.setIfInBounds_toArray,List.set_cons_zero,List.set_cons_succ,i64_w,i32_w]
        rfl
       refine take_ (i:=9) (N:=some 130) (v:=?_) (a':=?_) #[true,true,true,true,true,true,true,true,true,true,false,false,false,false,false,false,false,false,false,false,false,false,false,false,false] rfl rfl (by kernel_rfl) (fun _ _ _ h => h) (Or.inl ⟨by rfl,?_⟩) hHeld ?_ ?_
       rotate_left
       ·rintro w' ⟨s0,s1,s2,s3,s4,s5,s6,s7,s8,s9,s10,s11,s12,s13⟩
        go_simp
        with_reducible rfl
       rotate_left
       ·simp only [Act.put,List.setIfInBounds_toArray,List.set_cons_zero,List.set_cons_succ,i64_w,i32_w]
        rfl
       refine pure_ (i:=10) (N:=some 131) (v:=?_) (a':=?_) #[true,true,true,true,true,true,true,true,true,true,true,false,false,false,false,false,false,false,false,false,false,false,false,false,false] rfl rfl (by kernel_rfl) (fun _ _ _ h => h) (Or.inl ⟨by rfl,?_⟩) ?_ ?_
       rotate_left
       ·intro w'
        go_simp
        with_reducible rfl
       rotate_left
       ·simp only [Act.put,List.setIfInBounds_toArray,List.set_cons_zero,List.set_cons_succ,i64_w,i32_w]
        rfl
       refine pure_ (i:=11) (N:=some 132) (v:=?_) (a':=?_) #[true,true,true,true,true,true,true,true,true,true,true,true,false,false,false,false,false,false,false,false,false,false,false,false,false] rfl rfl (by kernel_rfl) (fun _ _ _ h => h) (Or.inl ⟨by rfl,?_⟩) ?_ ?_
       rotate_left
       ·intro w'
        go_simp
        with_reducible rfl
       rotate_left
       ·simp only [Act.put,List.setIfInBounds_toArray,List.set_cons_zero,List.set_cons_succ,i64_w,i32_w]
        rfl
       refine pure_ (i:=12) (N:=some 133) (v:=?_) (a':=?_) #[true,true,true,true,true,true,true,true,true,true,true,true,true,false,false,false,false,false,false,false,false,false,false,false,false] rfl rfl (by kernel_rfl) (fun _ _ _ h => h) (Or.inl ⟨by rfl,?_⟩) ?_ ?_
       rotate_left
       ·intro w'
        go_simp
        with_reducible rfl
       rotate_left
       ·simp only [Act.put,List.setIfInBounds_toArray,List.set_cons_zero,List.set_cons_succ,i64_w,i32_w]
        rfl
       refine pure_ (i:=13) (N:=some 134) (v:=?_) (a':=?_) #[true,true,true,true,true,true,true,true,true,true,true,true,true,true,false,false,false,false,false,false,false,false,false,false,false] rfl rfl (by kernel_rfl) (fun _ _ _ h => h) (Or.inl ⟨by rfl,?_⟩) ?_ ?_
       rotate_left
       ·intro w'
        go_simp
        with_reducible rfl
       rotate_left
       ·simp only [Act.put,List.setIfInBounds_toArray,List.set_cons_zero,List.set_cons_succ,i64_w,i32_w]
        rfl
       refine take_ (i:=14) (N:=some 135) (v:=?_) (a':=?_) #[true,true,true,true,true,true,true,true,true,true,true,true,true,true,true,false,false,false,false,false,false,false,false,false,false] rfl rfl (by kernel_rfl) (fun _ _ _ h => h) (Or.inl ⟨by rfl,?_⟩) hHeld ?_ ?_
       rotate_left
       ·rintro w' ⟨s0,s1,s2,s3,s4,s5,s6,s7,s8,s9,s10,s11,s12,s13⟩
        go_simp
        with_reducible rfl
       rotate_left
       ·simp only [Act.put,List.setIfInBounds_toArray,List.set_cons_zero,List.set_cons_succ,i64_w,i32_w]
        rfl
       refine pure_ (i:=15) (N:=some 136) (v:=?_) (a':=?_) #[true,true,true,true,true,true,true,true,true,true,true,true,true,true,true,true,false,false,false,false,false,false,false,false,false] rfl rfl (by kernel_rfl) (fun _ _ _ h => h) (Or.inl ⟨by rfl,?_⟩) ?_ ?_
       rotate_left
       ·intro w'
        go_simp
        with_reducible rfl
       rotate_left
       ·simp only [Act.put,List.setIfInBounds_toArray,List.set_cons_zero,List.set_cons_succ,i64_w,i32_w]
        rfl
       refine pure_ (i:=16) (N:=some 137) (v:=?_) (a':=?_) #[true,true,true,true,true,true,true,true,true,true,true,true,true,true,true,true,true,false,false,false,false,false,false,false,false] rfl rfl (by kernel_rfl) (fun _ _ _ h => h) (Or.inl ⟨by rfl,?_⟩) ?_ ?_
       rotate_left
       ·intro w'
        go_simp
        with_reducible rfl
       rotate_left
       ·simp only [Act.put,List.setIfInBounds_toArray,List.set_cons_zero,List.set_cons_succ,i64_w,i32_w]
        rfl
       refine pure_ (i:=17) (N:=some 138) (v:=?_) (a':=?_) #[true,true,true,true,true,true,true,true,true,true,true,true,true,true,true,true,true,true,false,false,false,false,false,false,false] rfl rfl (by kernel_rfl) (fun _ _ _ h => h) (Or.inl ⟨by rfl,?_⟩) ?_ ?_
       rotate_left
       ·intro w'
        go_simp
        with_reducible rfl
       rotate_left
       ·simp only [Act.put,List.setIfInBounds_toArray,List.set_cons_zero,List.set_cons_succ,i64_w,i32_w]
        rfl
       refine pure_ (i:=18) (N:=some 139) (v:=?_) (a':=?_) #[true,true,true,true,true,true,true,true,true,true,true,true,true,true,true,true,true,true,true,false,false,false,false,false,false] rfl rfl (by kernel_rfl) (fun _ _ _ h => h) (Or.inl ⟨by rfl,?_⟩) ?_ ?_
       rotate_left
       ·intro w'
        go_simp
        with_reducible rfl
       rotate_left
       ·simp only [Act.put,List.setIfInBounds_toArray,List.set_cons_zero,List.set_cons_succ,i64_w,i32_w]
        rfl
       refine take_ (i:=19) (N:=some 140) (v:=?_) (a':=?_) #[true,true,true,true,true,true,true,true,true,true,true,true,true,true,true,true,true,true,true,true,false,false,false,false,false] rfl rfl (by kernel_rfl) (fun _ _ _ h => h) (Or.inl ⟨by rfl,?_⟩) hHeld ?_ ?_
       rotate_left
       ·rintro w' ⟨s0,s1,s2,s3,s4,s5,s6,s7,s8,s9,s10,s11,s12,s13⟩
        go_simp
        with_reducible rfl
       rotate_left
       ·simp only [Act.put,List.setIfInBounds_toArray,List.set_cons_zero,List.set_cons_succ,i64_w,i32_w]
        rfl
       refine one_ (i:=20) (N:=some 141) #[true,true,true,true,true,true,true,true,true,true,true,true,true,true,true,true,true,true,true,true,true,false,false,false,false] rfl rfl (by kernel_rfl) (by decide) (fun K hK => ?_)
       refine value_ (v:=.slice (some ⟨Wd.heap.size,0,none⟩) 2 2) (w1:=Wd.alloc (.cells (cells43 y A5 c5 ++ cells43 z A6 c6).toArray 43)) (by rfl) rfl ?_ ?_
       ·unfold cells43
        go_simp
       have HBA:=Aside0.mk (below_alloc (Below.refl Wd.heap.size Wd) (.cells (cells43 y A5 c5 ++ cells43 z A6 c6).toArray 43))
       have BKS:=Aside0.mk (new_blk (W:=Wd) (.cells (cells43 y A5 c5 ++ cells43 z A6 c6).toArray 43) rfl)
       have HNA:=Aside0.mk (Kd.N_alloc HOG.out (.cells (cells43 y A5 c5 ++ cells43 z A6 c6).toArray 43))
       have HFX:=Aside0.mk (Kd.F_alloc QFx.out (.cells (cells43 y A5 c5 ++ cells43 z A6 c6).toArray 43))
       have HFU:=Aside0.mk (Kd.F_alloc QFu.out (.cells (cells43 y A5 c5 ++ cells43 z A6 c6).toArray 43))
       have HB1:=Aside0.mk (below_alloc HBD.out (.cells (cells43 y A5 c5 ++ cells43 z A6 c6).toArray 43))
       refine hK.out _ _ ⟨pw_cell_below HBA.out td,pw_cell_below HBA.out hOd,pw_cell_below HBA.out x0,pw_cell_below HBA.out x1,pw_cell_below HBA.out x2,pw_cell_below HBA.out x3,pw_cell_below HBA.out x4,pw_cell_below HBA.out x5,pw_cell_below HBA.out u0,pw_cell_below HBA.out u1,pw_cell_below HBA.out u2,pw_cell_below HBA.out u3,pw_cell_below HBA.out u4,pw_cell_below HBA.out u5⟩ (fun hHeld => ?_)
       clear hK K
       refine norm_ (a':=?_) ?_ ?_
       rotate_left
       ·show Act.put _ (some 141) _=_
        simp only [Act.put,List.setIfInBounds_toArray,List.set_cons_zero,List.set_cons_succ,i64_w,i32_w]
        rfl
       obtain ⟨kb,hkb⟩:∃ v,Wd.heap.size=v:=⟨_,rfl⟩
       have HKB:=Aside0.mk (show w2.heap.size ≤ kb∧kb ≠ g by have h1:=Kd.N_lt HOG.out g rfl;have h2:=HBD.out.size;omega)
       rw [hkb] at BKS ⊢
       generalize hW1:Wd.alloc (.cells (cells43 y A5 c5 ++ cells43 z A6 c6).toArray 43)=W1 at BKS HNA HFX HFU HB1 hHeld ⊢
       clear hW1 hkb
       refine pure_ (i:=21) (N:=some 142) (v:=?_) (a':=?_) #[true,true,true,true,true,true,true,true,true,true,true,true,true,true,true,true,true,true,true,true,true,true,false,false,false] rfl rfl (by kernel_rfl) (fun _ _ _ h => h) (Or.inl ⟨by rfl,?_⟩) ?_ ?_
       rotate_left
       ·intro w'
        go_simp
        with_reducible rfl
       rotate_left
       ·simp only [Act.put,List.setIfInBounds_toArray,List.set_cons_zero,List.set_cons_succ,i64_w,i32_w]
        rfl
       refine one_ (i:=22) (N:=some 143) #[true,true,true,true,true,true,true,true,true,true,true,true,true,true,true,true,true,true,true,true,true,true,true,false,false] rfl rfl (by kernel_rfl) (by decide) (fun K hK => ?_)
       refine value_ (v:=.slice (some ⟨W1.heap.size,0,none⟩) 1 1) (w1:=W1.alloc (.cells (cells43 (⟨opS,⟨0,0,(⟨#[]⟩:ByteArray)⟩,(⟨#[]⟩:ByteArray),[y,z]⟩:S43) (some ⟨kb,0,none⟩) 2).toArray 43)) (by rfl) rfl ?_ ?_
       ·unfold cells43
        go_simp
       have HBA2:=Aside0.mk (below_alloc (Below.refl W1.heap.size W1) (.cells (cells43 (⟨opS,⟨0,0,(⟨#[]⟩:ByteArray)⟩,(⟨#[]⟩:ByteArray),[y,z]⟩:S43) (some ⟨kb,0,none⟩) 2).toArray 43))
       obtain ⟨s0,s1,s2,s3,s4,s5,s6,s7,s8,s9,s10,s11,s12,s13⟩:=hHeld
       refine hK.out _ _ ⟨pw_cell_below HBA2.out s0,pw_cell_below HBA2.out s1,pw_cell_below HBA2.out s2,pw_cell_below HBA2.out s3,pw_cell_below HBA2.out s4,pw_cell_below HBA2.out s5,pw_cell_below HBA2.out s6,pw_cell_below HBA2.out s7,pw_cell_below HBA2.out s8,pw_cell_below HBA2.out s9,pw_cell_below HBA2.out s10,pw_cell_below HBA2.out s11,pw_cell_below HBA2.out s12,pw_cell_below HBA2.out s13⟩ (fun hHeld => ?_)
       clear hK K
       refine norm_ (a':=?_) ?_ ?_
       rotate_left
       ·show Act.put _ (some 143) _=_
        simp only [Act.put,List.setIfInBounds_toArray,List.set_cons_zero,List.set_cons_succ,i64_w,i32_w]
        rfl
       have HTK:=Aside0.mk (Kd.N_take HNA.out (m:=m) (by have:=HM.out;omega))
       have HTL:=Aside0.mk (show (xs.take m).length=m by rw [List.length_take];have:=HM.out;omega)
       have HFP:=Aside0.mk (F_two BKS.out (ok:=fun q => w2.heap.size ≤ q∧q ≠ g) HKB.out QLx.out HFX.out QLu.out HFU.out)
       have HTK2:Aside0 (Kd.N k43 43 W1 w2.heap.size (fun q => w2.heap.size ≤ q) (.slice (some ad) m cx) (xs.take m)):=⟨by rw [HAD.out];exact HTK.out⟩
       refine last_ (i:=23) (N:=some 144) #[true,true,true,true,true,true,true,true,true,true,true,true,true,true,true,true,true,true,true,true,true,true,true,true,false] rfl rfl (by kernel_rfl) (by decide) (fun K hK => ?_)
       refine Kd.N_append_step k43 (w0:=w2) w2.heap.size (by rfl) (.tmp 124) (.tmp 143) 41 43 (.agg #[(.string ⟨#[]⟩),(.int .i64 0),(.int .i64 0),(.string ⟨#[]⟩),(.string ⟨#[]⟩),(.slice none 0 0)]) 88 rfl Tryz.underlying41 info43 rfl (by decide) (by omega) (.slice (some ad) m cx) (xs.take m) (⟨opS,⟨0,0,(⟨#[]⟩:ByteArray)⟩,(⟨#[]⟩:ByteArray),[y,z]⟩:S43) (cells43 (⟨opS,⟨0,0,(⟨#[]⟩:ByteArray)⟩,(⟨#[]⟩:ByteArray),[y,z]⟩:S43) (some ⟨kb,0,none⟩) 2) (fun q => w2.heap.size ≤ q) (fun q => w2.heap.size ≤ q∧q ≠ g) rfl rfl (FK43 (Nat.le_refl _) HFP.out) (fun q hq => ⟨hq.1,fun he => hq.2 (by rw [HAD.out] at he;injection he)⟩) (fun q hq => Nat.le_trans HB1.out.size hq) HTK2.out HB1.out HB1.out.size (by rw [HTL.out];have:=HLN.out;have:=HM.out;omega) ?_
       intro v6 w6 ho hb hg hat
       obtain ⟨A7,c7,rfl⟩:=Kd.N_slice ho
       have HO6:=Aside0.mk ho
       have HB6:=Aside0.mk hb
       clear ho hb hg hat
       refine hK.out _ _ ?_
       clear hK K
       refine norm_ (a':=?_) ?_ ?_
       rotate_left
       ·show Act.put _ (some 144) _=_
        simp only [Act.put,List.setIfInBounds_toArray,List.set_cons_zero,List.set_cons_succ,i64_w,i32_w]
        rfl
       refine pure_ (i:=24) (N:=some 6) (v:=?_) (a':=?_) #[true,true,true,true,true,true,true,true,true,true,true,true,true,true,true,true,true,true,true,true,true,true,true,true,true] rfl rfl (by kernel_rfl) (fun _ _ _ h => h) (Or.inl ⟨by rfl,?_⟩) ?_ ?_
       rotate_left
       ·intro w'
        go_simp
        with_reducible rfl
       rotate_left
       ·simp only [Act.put,List.setIfInBounds_toArray,List.set_cons_zero,List.set_cons_succ,i64_w,i32_w]
        rfl
       refine done_ (by kernel_rfl) ?_
       go_wp2
       go_roundg k1
       case measure => have:=HJ.out;omega
       case rel => exact ⟨j + 1,xs.take m ++ [(⟨opS,⟨0,0,(⟨#[]⟩:ByteArray)⟩,(⟨#[]⟩:ByteArray),[y,z]⟩:S43)],A7,c7,by first | rfl | (simp;done),by first | (rw [hw1];done) | rfl | (simp;done),⟨by have:=HJ.out;omega⟩,⟨by rw [← HPE.out,HE.out,QYx.out,QYu.out]⟩,⟨by rw [List.length_append,HTL.out];have:=HLN.out;have:=HM.out;simp only [List.length_cons,List.length_nil];omega⟩,HO6,HB6⟩
      ·have HE:=Aside0.mk (show stepE s xs=xs by unfold stepE;rw [if_neg c0,if_neg c1,if_neg c2,if_neg c3,if_neg c4,if_neg (by omega),if_neg (by omega)])
       have b0:(s.f0 == 0)=false:=beq_eq_false_iff_ne.mpr c0
       have b1:(s.f0 == 1)=false:=beq_eq_false_iff_ne.mpr c1
       have b2:(s.f0 == 2)=false:=beq_eq_false_iff_ne.mpr c2
       have b3:(s.f0 == 3)=false:=beq_eq_false_iff_ne.mpr c3
       have b4:(s.f0 == 4)=false:=beq_eq_false_iff_ne.mpr c4
       have g1:decide (5 ≤ s.f0)=true:=decide_eq_true (by omega)
       have g2:decide (s.f0 ≤ 10)=false:=decide_eq_false (by omega)
       have g4:decide (11 ≤ s.f0)=true:=decide_eq_true (by omega)
       have g5:decide (s.f0 < 25)=true:=decide_eq_true (by omega)
       have g6:decide (1 < xs.length)=false:=decide_eq_false (by omega)
       have g6i:decide ((1:Int) < (xs.length:Int))=false:=decide_eq_false (by omega)
       clear k5 k10 k25 kn
       clear c0 c1 c2 c3 c4
       go_wp2
       go_roundg k1
       case measure => have:=HJ.out;omega
       case rel => exact ⟨j + 1,xs,Ax,cx,by first | rfl | (simp;done) | (rw [HLE.out];done),by first | (rw [hw1];done) | rfl | (simp;done),⟨by have:=HJ.out;omega⟩,⟨by rw [← HPE.out,HE.out]⟩,⟨by have:=HLN.out;first | omega | (simp;omega)⟩,HOW,HBW⟩
     ·have HE:=Aside0.mk (show stepE s xs=xs by unfold stepE;rw [if_neg c0,if_neg c1,if_neg c2,if_neg c3,if_neg c4,if_neg (by omega),if_neg (by omega)])
      have b0:(s.f0 == 0)=false:=beq_eq_false_iff_ne.mpr c0
      have b1:(s.f0 == 1)=false:=beq_eq_false_iff_ne.mpr c1
      have b2:(s.f0 == 2)=false:=beq_eq_false_iff_ne.mpr c2
      have b3:(s.f0 == 3)=false:=beq_eq_false_iff_ne.mpr c3
      have b4:(s.f0 == 4)=false:=beq_eq_false_iff_ne.mpr c4
      have g1:decide (5 ≤ s.f0)=true:=decide_eq_true (by omega)
      have g2:decide (s.f0 ≤ 10)=false:=decide_eq_false (by omega)
      have g4:decide (11 ≤ s.f0)=true:=decide_eq_true (by omega)
      have g5:decide (s.f0 < 25)=false:=decide_eq_false (by omega)
      clear k5 k10 k25
      clear c0 c1 c2 c3 c4
      go_wp2
      go_roundg k1
      case measure => have:=HJ.out;omega
      case rel => exact ⟨j + 1,xs,Ax,cx,by first | rfl | (simp;done) | (rw [HLE.out];done),by first | (rw [hw1];done) | rfl | (simp;done),⟨by have:=HJ.out;omega⟩,⟨by rw [← HPE.out,HE.out]⟩,⟨by have:=HLN.out;first | omega | (simp;omega)⟩,HOW,HBW⟩
   ·have HE:=Aside0.mk (show stepE s xs=xs by unfold stepE;rw [if_neg c0,if_neg c1,if_neg c2,if_neg c3,if_neg c4,if_neg (by omega),if_neg (by omega)])
    have b0:(s.f0 == 0)=false:=beq_eq_false_iff_ne.mpr c0
    have b1:(s.f0 == 1)=false:=beq_eq_false_iff_ne.mpr c1
    have b2:(s.f0 == 2)=false:=beq_eq_false_iff_ne.mpr c2
    have b3:(s.f0 == 3)=false:=beq_eq_false_iff_ne.mpr c3
    have b4:(s.f0 == 4)=false:=beq_eq_false_iff_ne.mpr c4
    have g1:decide (5 ≤ s.f0)=false:=decide_eq_false (by omega)
    have g4:decide (11 ≤ s.f0)=false:=decide_eq_false (by omega)
    clear k5
    clear c0 c1 c2 c3 c4
    go_wp2
    go_roundg k1
    case measure => have:=HJ.out;omega
    case rel => exact ⟨j + 1,xs,Ax,cx,by first | rfl | (simp;done) | (rw [HLE.out];done),by first | (rw [hw1];done) | rfl | (simp;done),⟨by have:=HJ.out;omega⟩,⟨by rw [← HPE.out,HE.out]⟩,⟨by have:=HLN.out;first | omega | (simp;omega)⟩,HOW,HBW⟩
end Go.Proofs.YtcgdncpioafbdaaGreatDoor.Q
namespace Go.Proofs.YtcgdncpioafbdaaGreatDoor.Q
open Go.RowKit Go.Proofs.YtcgdncpioafbdaaGreatDoorW.PrintWords Go.Proofs.YtcgdncpioafbdaaGreatDoorW.PrintLast Go.Proofs.YtcgdncpioafbdaaGreatDoorW.PrintMore
attribute [local go_sem] max2_int min2_int max_two min_two max_three min_three max_four min_four
set_option linter.unusedVariables false
set_option linter.unusedSimpArgs false
def lex_skip.l0:Nat → ByteArray → Option (ByteArray)
 | 0,_ => none
 | k + 1,x0 => (strings_TrimLeft.f x0 (⟨#[32,9,10,13]⟩:ByteArray)).bind fun t101 => ((strings_HasPrefix.f t101 (⟨#[45,45]⟩:ByteArray)).bind fun t102 => (if t102=true then ((strings_Cut.f t101 (⟨#[10]⟩:ByteArray)).bind fun bt103 => (lex_skip.l0 k bt103.2.1)) else (some t101)))
def lex_skip.f (k:Nat) (a0:ByteArray):Option (ByteArray):=lex_skip.l0 k a0
def lex_run.f (a0:ByteArray) (a1:ByteArray):Option (Int):=(lex_cutLeft.f a0 a1).bind fun t106 => (some (wrap64 ((a0.size:Int) - (t106.size:Int))))
def lex_word.f (a0:ByteArray):Option (Int × ByteArray × Int × Int × Int):=(lex_run.f a0 (⟨#[97,98,99,100,101,102,103,104,105,106,107,108,109,110,111,112,113,114,115,116,117,118,119,120,121,122,65,66,67,68,69,70,71,72,73,74,75,76,77,78,79,80,81,82,83,84,85,86,87,88,89,90,48,49,50,51,52,53,54,55,56,57,95]⟩:ByteArray)).bind fun t108 => (if t108 > 30 then (some (0,(⟨#[]⟩:ByteArray),0,0,28)) else (if 0 ≤ t108 then (if t108 ≤ (a0.size:Int) then ((strings_ToLower.f (a0.extract 0 (t108:Int).toNat)).bind fun t109 => (some (1,t109,0,t108,0))) else (none)) else (none)))
def lex_has.f (a0:ByteArray) (a1:Int):Option (Bool):=(strings_IndexByte.f a0 a1).bind fun t110 => (some (decide (t110 ≥ 0)))
def lex_sign.j0:Nat → ByteArray → ByteArray → Bool → Option (Int × ByteArray × Int × Int × Int)
 | 0,_,_,_ => none
 | k + 1,x0,x5,x12 => if x12=true then (some (4,x5,0,2,0)) else (if 0 < (x0.size:Int) then ((lex_has.f (⟨#[40,41,44,42,43,45,47,37,61,60,62,59]⟩:ByteArray) (bt x0 0)).bind fun t112 => (if t112=true then (if 0 ≤ 1 then (if 1 ≤ (x0.size:Int) then (some (4,x0.extract 0 1,0,1,0)) else (none)) else (none)) else (some (0,(⟨#[]⟩:ByteArray),0,0,20)))) else (none))
def lex_sign.f (k:Nat) (a0:ByteArray):Option (Int × ByteArray × Int × Int × Int):=if (a0.size:Int) > 1 then (if 0 ≤ 2 then (if 2 ≤ (a0.size:Int) then (if (a0.extract 0 2).toList=([60,61]:List UInt8) then (lex_sign.j0 k a0 (a0.extract 0 2) ((a0.extract 0 2).toList == ([60,61]:List UInt8))) else (if (a0.extract 0 2).toList=([62,61]:List UInt8) then (lex_sign.j0 k a0 (a0.extract 0 2) ((a0.extract 0 2).toList == ([62,61]:List UInt8))) else (if (a0.extract 0 2).toList=([60,62]:List UInt8) then (lex_sign.j0 k a0 (a0.extract 0 2) ((a0.extract 0 2).toList == ([60,62]:List UInt8))) else (lex_sign.j0 k a0 (a0.extract 0 2) ((a0.extract 0 2).toList == ([124,124]:List UInt8)))))) else (none)) else (none)) else (if 0 < (a0.size:Int) then ((lex_has.f (⟨#[40,41,44,42,43,45,47,37,61,60,62,59]⟩:ByteArray) (bt a0 0)).bind fun t113 => (if t113=true then (if 0 ≤ 1 then (if 1 ≤ (a0.size:Int) then (some (4,a0.extract 0 1,0,1,0)) else (none)) else (none)) else (some (0,(⟨#[]⟩:ByteArray),0,0,20)))) else (none))
def lex_Text.l0:Nat → List ByteArray → List (S32) → Int → Int → Option (ByteArray)
 | 0,_,_,_,_ => none
 | k + 1,x3,x6,x7,x8 => if x8 < x7 then (if 0 ≤ x8 then (if x8 < (x6.length:Int) then (if ((rd_T32 x6 x8).f0)=0 then ((strings_Join.f x3 (⟨#[32]⟩:ByteArray)).bind fun t117 => (some t117)) else (if ((rd_T32 x6 x8).f0)=2 then ((strconv_FormatInt.f (mx ((rd_T32 x6 x8).f2) 0) 10).bind fun t118 => (if x3.length < 8796093022208 then (lex_Text.l0 k (x3 ++ [t118]) x6 x7 (wrap64 (x8 + 1))) else (none))) else (if ((rd_T32 x6 x8).f0)=3 then ((strings_ReplaceAll.f ((rd_T32 x6 x8).f1) (⟨#[39]⟩:ByteArray) (⟨#[39,39]⟩:ByteArray)).bind fun t122 => (if 1 + t122.size ≤ 9223372036854775807 then (if ((⟨#[39]⟩:ByteArray) ++ t122).size + 1 ≤ 9223372036854775807 then (if x3.length < 8796093022208 then (lex_Text.l0 k (x3 ++ [((⟨#[39]⟩:ByteArray) ++ t122) ++ (⟨#[39]⟩:ByteArray)]) x6 x7 (wrap64 (x8 + 1))) else (none)) else (none)) else (none))) else (if x3.length < 8796093022208 then (lex_Text.l0 k (x3 ++ [(rd_T32 x6 x8).f1]) x6 x7 (wrap64 (x8 + 1))) else (none))))) else (none)) else (none)) else ((strings_Join.f x3 (⟨#[32]⟩:ByteArray)).bind fun t114 => (some t114))
def lex_Text.f (k:Nat) (l0:List (S32)):Option (ByteArray):=lex_Text.l0 k ([]:List ByteArray) l0 (l0.length:Int) 0
end Go.Proofs.YtcgdncpioafbdaaGreatDoor.Q
namespace Go.Proofs.YtcgdncpioafbdaaGreatDoor.Q
open Go
def tk32 (t:Lx.Tk):S32:=⟨t.kind,ba t.s,t.n⟩
def tokF (s:ByteArray):Option (List S32 × Int):=match Lx.lexA s.data.toList with
 | .error e => some ([],(e:Int))
 | .ok ts => some (ts.map tk32 ++ [z32],0)
def lex_Tokens.f (s:ByteArray):Option (List S32 × Int):=tokF s
def vidimusref16_Tokens.f (s:ByteArray):Option (List S32 × Int):=tokF s
end Go.Proofs.YtcgdncpioafbdaaGreatDoor.Q
namespace Go.Proofs.YtcgdncpioafbdaaGreatDoor.Q
open Go.RowKit Go.Proofs.YtcgdncpioafbdaaGreatDoorW.PrintWords Go.Proofs.YtcgdncpioafbdaaGreatDoorW.PrintLast Go.Proofs.YtcgdncpioafbdaaGreatDoorW.PrintMore
attribute [local go_sem] max2_int min2_int max_two min_two max_three min_three max_four min_four
set_option linter.unusedVariables false
set_option linter.unusedSimpArgs false
def vidimuslaw16_awake.f (k:Nat)  : Option (Bool):=(lex_Tokens.f (⟨#[65,60,61,49,32,45,45,32,120]⟩:ByteArray)).bind fun bt129 => ((lex_Tokens.f (⟨#[39,97]⟩:ByteArray)).bind fun bt133 => (if bt129.2=0 then (if bt133.2=20 then (if (bt129.1.length:Int)=4 then (if 0 < (bt129.1.length:Int) then (if ((rd_T32 bt129.1 0).f1).toList=([97]:List UInt8) then (if 1 < (bt129.1.length:Int) then (if ((rd_T32 bt129.1 1).f1).toList=([60,61]:List UInt8) then (if 2 < (bt129.1.length:Int) then (if ((rd_T32 bt129.1 2).f2)=1 then ((lex_Text.f k bt129.1).bind fun t140 => (some (t140.toList == ([97,32,60,61,32,49]:List UInt8)))) else (some false)) else (none)) else (some false)) else (none)) else (some false)) else (none)) else (some false)) else (some false)) else (some false)))
def vidimuslaw16_LexTells.j0:Nat → ByteArray → Bool → Option (Bool)
 | 0,_,_ => none
 | k + 1,x0,x16 => if x16=true then (some true) else ((lex_Tokens.f x0).bind fun bt144 => ((vidimusref16_Tokens.f x0).bind fun bt148 => (if bt144.2=bt148.2 then ((vidimusref16_Same.f k bt144.1 bt148.1).bind fun t152 => (some t152)) else (some false))))
def vidimuslaw16_LexTells.f (k:Nat) (a0:ByteArray):Option (Bool):=(vidimuslaw16_awake.f k).bind fun t143 => (if t143=true then (if (a0.size:Int) > 1000 then (vidimuslaw16_LexTells.j0 k a0 (decide ((a0.size:Int) ≤ 4000))) else (vidimuslaw16_LexTells.j0 k a0 false)) else (some false))
mutual
def vidimuslaw16_LexTexts.j0:Nat → ByteArray → List (S32) → Bool → Option (Bool)
 | 0,_,_,_ => none
 | k + 1,x0,x1,x20 => if x20=true then (some true) else (vidimuslaw16_LexTexts.l0 k x0 x1 x1 (x1.length:Int) 0)
def vidimuslaw16_LexTexts.l0:Nat → ByteArray → List (S32) → List (S32) → Int → Int → Option (Bool)
 | 0,_,_,_,_,_ => none
 | k + 1,x0,x1,x21,x22,x23 => if x23 < x22 then (if 0 ≤ x23 then (if x23 < (x21.length:Int) then (if (((rd_T32 x21 x23).f1).size:Int) > 100 then (some true) else (vidimuslaw16_LexTexts.l0 k x0 x1 x21 x22 (wrap64 (x23 + 1)))) else (none)) else (none)) else ((lex_Text.f k x1).bind fun t170 => ((vidimusref16_Text.f k x1).bind fun t171 => (if t170.toList=t171.toList then ((lex_Tokens.f x0).bind fun bt172 => (if bt172.2=0 then ((lex_Text.f k bt172.1).bind fun t176 => ((lex_Tokens.f t176).bind fun bt177 => (if bt177.2=0 then ((vidimusref16_Same.f k bt172.1 bt177.1).bind fun t181 => (some t181)) else (some false)))) else (some ((bt172.1.length:Int) == 0)))) else (some false))))
end
def vidimuslaw16_LexTexts.f (k:Nat) (a0:ByteArray) (l1:List (S32)):Option (Bool):=(vidimuslaw16_awake.f k).bind fun t167 => (if t167=true then (if (a0.size:Int) > 500 then (vidimuslaw16_LexTexts.j0 k a0 l1 true) else (vidimuslaw16_LexTexts.j0 k a0 l1 (decide ((l1.length:Int) > 30)))) else (some false))
def vidimuslaw16_remark.l0:Nat → ByteArray → Int → Option (Bool)
 | 0,_,_ => none
 | k + 1,x0,x3 => if x3 < (x0.size:Int) then (if 0 ≤ x3 then (if (bt x0 x3)=45 then (if 0 ≤ (wrap64 (x3 - 1)) then (if (wrap64 (x3 - 1)) < (x0.size:Int) then (if (bt x0 (wrap64 (x3 - 1)))=45 then (some true) else (vidimuslaw16_remark.l0 k x0 (wrap64 (x3 + 1)))) else (none)) else (none)) else (vidimuslaw16_remark.l0 k x0 (wrap64 (x3 + 1)))) else (none)) else (some false)
def vidimuslaw16_remark.f (k:Nat) (a0:ByteArray):Option (Bool):=vidimuslaw16_remark.l0 k a0 1
mutual
def vidimuslaw16_LexBlanks.j0:Nat → List ByteArray → List Int → Bool → Option (Bool)
 | 0,_,_,_ => none
 | k + 1,x0,x1,x27 => if x27=true then (some true) else (vidimuslaw16_LexBlanks.l0 k x0 x1 (⟨#[]⟩:ByteArray) (⟨#[]⟩:ByteArray) x0 (x0.length:Int) 0)
def vidimuslaw16_LexBlanks.l0:Nat → List ByteArray → List Int → ByteArray → ByteArray → List ByteArray → Int → Int → Option (Bool)
 | 0,_,_,_,_,_,_,_ => none
 | k + 1,x0,x1,x5,x6,x28,x29,x30 => if x30 < x29 then (if 0 ≤ x30 then (if x30 < (x28.length:Int) then (if ((rdOf ByteArray.empty x28 x30).size:Int) > 40 then (some true) else ((lex_Tokens.f (rdOf ByteArray.empty x28 x30)).bind fun bt193 => ((vidimusref16_Tokens.f (rdOf ByteArray.empty x28 x30)).bind fun bt197 => (if bt193.2=0 then (if (bt193.1.length:Int)=2 then ((vidimuslaw16_remark.f k (rdOf ByteArray.empty x28 x30)).bind fun t201 => (if t201=true then (vidimuslaw16_LexBlanks.j2 k x0 x1 x5 x6 x30 (rdOf ByteArray.empty x28 x30) x28 x29 x30 true) else (vidimuslaw16_LexBlanks.j2 k x0 x1 x5 x6 x30 (rdOf ByteArray.empty x28 x30) x28 x29 x30 ((bt197.1.length:Int) != 2)))) else (vidimuslaw16_LexBlanks.j2 k x0 x1 x5 x6 x30 (rdOf ByteArray.empty x28 x30) x28 x29 x30 true)) else (vidimuslaw16_LexBlanks.j2 k x0 x1 x5 x6 x30 (rdOf ByteArray.empty x28 x30) x28 x29 x30 true))))) else (none)) else (none)) else ((lex_Tokens.f x5).bind fun bt183 => ((lex_Tokens.f x6).bind fun bt187 => (if bt183.2=0 then (if bt187.2=0 then (if (bt183.1.length:Int)=(wrap64 ((x0.length:Int) + 1)) then ((vidimusref16_Same.f k bt183.1 bt187.1).bind fun t191 => (some t191)) else (some false)) else (some false)) else (some false))))
def vidimuslaw16_LexBlanks.j2:Nat → List ByteArray → List Int → ByteArray → ByteArray → Int → ByteArray → List ByteArray → Int → Int → Bool → Option (Bool)
 | 0,_,_,_,_,_,_,_,_,_,_ => none
 | k + 1,x0,x1,x5,x6,x7,x8,x28,x29,x30,x63 => if x63=true then (some true) else (if x7 < (x1.length:Int) then (if 0 ≤ x7 then (if (Int.tmod (rd x1 x7) 4)=1 then (if x8.size + 1 ≤ 9223372036854775807 then (if x5.size + (x8 ++ (⟨#[32]⟩:ByteArray)).size ≤ 9223372036854775807 then (if x8.size + 5 ≤ 9223372036854775807 then (if x6.size + (x8 ++ (⟨#[9,10,13,32,32]⟩:ByteArray)).size ≤ 9223372036854775807 then (vidimuslaw16_LexBlanks.l0 k x0 x1 (x5 ++ (x8 ++ (⟨#[32]⟩:ByteArray))) (x6 ++ (x8 ++ (⟨#[9,10,13,32,32]⟩:ByteArray))) x28 x29 (wrap64 (x30 + 1))) else (none)) else (none)) else (none)) else (none)) else (if (Int.tmod (rd x1 x7) 4)=2 then (if x8.size + 1 ≤ 9223372036854775807 then (if x5.size + (x8 ++ (⟨#[32]⟩:ByteArray)).size ≤ 9223372036854775807 then (if x8.size + 19 ≤ 9223372036854775807 then (if x6.size + (x8 ++ (⟨#[32,45,45,105,116,39,115,32,97,32,114,101,109,97,114,107,32,40,10]⟩:ByteArray)).size ≤ 9223372036854775807 then (vidimuslaw16_LexBlanks.l0 k x0 x1 (x5 ++ (x8 ++ (⟨#[32]⟩:ByteArray))) (x6 ++ (x8 ++ (⟨#[32,45,45,105,116,39,115,32,97,32,114,101,109,97,114,107,32,40,10]⟩:ByteArray))) x28 x29 (wrap64 (x30 + 1))) else (none)) else (none)) else (none)) else (none)) else (if (Int.tmod (rd x1 x7) 4)=3 then (if x8.size + 1 ≤ 9223372036854775807 then (if x5.size + (x8 ++ (⟨#[32]⟩:ByteArray)).size ≤ 9223372036854775807 then (if x8.size + 8 ≤ 9223372036854775807 then (if x6.size + (x8 ++ (⟨#[10,45,45,10,45,45,120,10]⟩:ByteArray)).size ≤ 9223372036854775807 then (vidimuslaw16_LexBlanks.l0 k x0 x1 (x5 ++ (x8 ++ (⟨#[32]⟩:ByteArray))) (x6 ++ (x8 ++ (⟨#[10,45,45,10,45,45,120,10]⟩:ByteArray))) x28 x29 (wrap64 (x30 + 1))) else (none)) else (none)) else (none)) else (none)) else (if x8.size + 1 ≤ 9223372036854775807 then (if x5.size + (x8 ++ (⟨#[32]⟩:ByteArray)).size ≤ 9223372036854775807 then (if x6.size + (x8 ++ (⟨#[32]⟩:ByteArray)).size ≤ 9223372036854775807 then (vidimuslaw16_LexBlanks.l0 k x0 x1 (x5 ++ (x8 ++ (⟨#[32]⟩:ByteArray))) (x6 ++ (x8 ++ (⟨#[32]⟩:ByteArray))) x28 x29 (wrap64 (x30 + 1))) else (none)) else (none)) else (none))))) else (none)) else (if x8.size + 1 ≤ 9223372036854775807 then (if x5.size + (x8 ++ (⟨#[32]⟩:ByteArray)).size ≤ 9223372036854775807 then (if x6.size + (x8 ++ (⟨#[32]⟩:ByteArray)).size ≤ 9223372036854775807 then (vidimuslaw16_LexBlanks.l0 k x0 x1 (x5 ++ (x8 ++ (⟨#[32]⟩:ByteArray))) (x6 ++ (x8 ++ (⟨#[32]⟩:ByteArray))) x28 x29 (wrap64 (x30 + 1))) else (none)) else (none)) else (none)))
end
def vidimuslaw16_LexBlanks.f (k:Nat) (l0:List ByteArray) (l1:List Int):Option (Bool):=(vidimuslaw16_awake.f k).bind fun t182 => (if t182=true then (if (l0.length:Int) > 20 then (vidimuslaw16_LexBlanks.j0 k l0 l1 true) else (vidimuslaw16_LexBlanks.j0 k l0 l1 (decide ((l1.length:Int) > 20)))) else (some false))
def vidimuslaw16_odd.l0:Nat → ByteArray → Int → Int → Option (Bool)
 | 0,_,_,_ => none
 | k + 1,x0,x5,x6 => if x6 < x5 then (if 0 ≤ x6 then (if x6 < (x0.size:Int) then (if (bt x0 x6)=39 then (some true) else (vidimuslaw16_odd.l0 k x0 x5 (wrap64 (x6 + 1)))) else (none)) else (none)) else (some false)
def vidimuslaw16_odd.f (k:Nat) (a0:ByteArray):Option (Bool):=vidimuslaw16_odd.l0 k a0 (a0.size:Int) 0
mutual
def vidimuslaw16_LexJoins.j0:Nat → ByteArray → ByteArray → Bool → Option (Bool)
 | 0,_,_,_ => none
 | k + 1,x0,x1,x20 => if x20=true then (some true) else ((lex_Tokens.f x0).bind fun bt204 => ((lex_Tokens.f x1).bind fun bt208 => (if x0.size + 1 ≤ 9223372036854775807 then (if (x0 ++ (⟨#[10]⟩:ByteArray)).size + x1.size ≤ 9223372036854775807 then ((lex_Tokens.f ((x0 ++ (⟨#[10]⟩:ByteArray)) ++ x1)).bind fun bt212 => (if bt204.2=20 then ((vidimuslaw16_odd.f k x0).bind fun t216 => (vidimuslaw16_LexJoins.j1 k bt204.1 bt204.2 bt208.1 bt208.2 bt212.1 bt212.2 t216)) else (vidimuslaw16_LexJoins.j1 k bt204.1 bt204.2 bt208.1 bt208.2 bt212.1 bt212.2 false))) else (none)) else (none))))
def vidimuslaw16_LexJoins.j1:Nat → List (S32) → Int → List (S32) → Int → List (S32) → Int → Bool → Option (Bool)
 | 0,_,_,_,_,_,_,_ => none
 | k + 1,x5,x6,x7,x8,x9,x10,x39 => if x39=true then (some true) else (if x6=0 then (if x8=0 then (if x10=0 then ((some (([]:List (S32)):List (S32))).bind fun y217 => (if 0 ≤ (wrap64 ((x5.length:Int) - 1)) then (if (wrap64 ((x5.length:Int) - 1)) ≤ (x5.length:Int) then ((some (x5.take ((wrap64 ((x5.length:Int) - 1)):Int).toNat:List (S32))).bind fun y220 => (if y217.length + y220.length < 4398046511104 then ((some (y217 ++ y220:List (S32))).bind fun y224 => (if y224.length + x7.length < 4398046511104 then ((vidimusref16_Same.f k x9 (y224 ++ x7)).bind fun t230 => (some t230)) else (none))) else (none))) else (none)) else (none))) else (some false)) else (some (x10 == x8))) else (some (x10 == x6)))
end
def vidimuslaw16_LexJoins.f (k:Nat) (a0:ByteArray) (a1:ByteArray):Option (Bool):=(vidimuslaw16_awake.f k).bind fun t203 => (if t203=true then (if (a0.size:Int) > 500 then (vidimuslaw16_LexJoins.j0 k a0 a1 true) else (vidimuslaw16_LexJoins.j0 k a0 a1 (decide ((a1.size:Int) > 500)))) else (some false))
end Go.Proofs.YtcgdncpioafbdaaGreatDoor.Q
namespace Go.Proofs.YtcgdncpioafbdaaGreatDoor.Q
open Go Go.RowKit Go.Proofs.YtcgdncpioafbdaaGreatDoorW.PrintWords
theorem ba_ext' {a b:ByteArray} (h:a.data.toList=b.data.toList):a=b:=by
 cases a;cases b;simp at h;simpa using h
theorem all_bytes {p:UInt8 → Prop} [DecidablePred p] (h:∀ n:Fin 256,p (UInt8.ofNat n)) (c:UInt8):p c:=by
 have:=h ⟨c.toNat,c.toNat_lt⟩
 simpa using this
abbrev digB:ByteArray:=⟨#[48,49,50,51,52,53,54,55,56,57]⟩
abbrev letB:ByteArray:=⟨#[97,98,99,100,101,102,103,104,105,106,107,108,109,110,111,112,113,114,115,116,117,118,119,120,121,122,65,66,67,68,69,70,71,72,73,74,75,76,77,78,79,80,81,82,83,84,85,86,87,88,89,90]⟩
abbrev behB:ByteArray:=⟨#[97,98,99,100,101,102,103,104,105,106,107,108,109,110,111,112,113,114,115,116,117,118,119,120,121,122,65,66,67,68,69,70,71,72,73,74,75,76,77,78,79,80,81,82,83,84,85,86,87,88,89,90,48,49,50,51,52,53,54,55,56,57,95]⟩
theorem dig_is (c:UInt8):digB.data.toList.contains c=Lx.isDigit c:=all_bytes (p:=fun c => digB.data.toList.contains c=Lx.isDigit c) (by decide +kernel) c
theorem let_is (c:UInt8):letB.data.toList.contains c=Lx.isLetter c:=all_bytes (p:=fun c => letB.data.toList.contains c=Lx.isLetter c) (by decide +kernel) c
theorem beh_is (c:UInt8):behB.data.toList.contains c=Lx.isPart c:=all_bytes (p:=fun c => behB.data.toList.contains c=Lx.isPart c) (by decide +kernel) c
theorem blank_is (c:UInt8):([32,9,10,13]:List UInt8).contains c=Lx.isBlank c:=all_bytes (p:=fun c => ([32,9,10,13]:List UInt8).contains c=Lx.isBlank c) (by decide +kernel) c
theorem indexByte_has (l:List UInt8) (c:UInt8):-1 ≤ Lib.indexByte l c∧(0 ≤ Lib.indexByte l c ↔ l.contains c=true):=by
 induction l with
 | nil => simp [Lib.indexByte]
 | cons b l ih =>
  simp only [Lib.indexByte]
  by_cases hb:b=c
  ·subst hb;simp
  ·have h1:(b == c)=false:=by simpa using hb
   have h2:(c == b)=false:=by simpa using Ne.symm hb
   rw [h1,List.contains_cons,h2,Bool.false_or]
   simp only [Bool.false_eq_true,if_false]
   split
   ·rename_i h3
    have h4:Lib.indexByte l c = -1:=by simpa using h3
    refine ⟨by omega,?_⟩
    rw [← ih.2]
    omega
   ·rename_i h3
    have h4:¬ Lib.indexByte l c = -1:=by simpa using h3
    refine ⟨by omega,?_⟩
    rw [← ih.2]
    omega
theorem has_is (set:ByteArray) (c:UInt8):lex_has.f set (c.toNat:Int)=some (set.data.toList.contains c):=by
 unfold lex_has.f strings_IndexByte.f
 simp only [Option.bind_some,Int.toNat_natCast]
 have e:c.toNat.toUInt8=c:=by simp
 rw [e]
 have h:=(indexByte_has set.data.toList c).2
 congr 1
 rw [Bool.eq_iff_iff,← h]
 simp
theorem dropWhile_length {α} (p:α → Bool) (l:List α):(l.dropWhile p).length + (l.takeWhile p).length=l.length:=by
 have:=congrArg List.length (List.takeWhile_append_dropWhile (p:=p) (l:=l))
 rw [List.length_append] at this
 omega
theorem takeWhile_cong {α} {p q:α → Bool} (h:∀ x,p x=q x) (l:List α):l.takeWhile p=l.takeWhile q:=by rw [show p=q from funext h]
theorem run_is (s set:ByteArray) (hset:set.data.toList.all (fun x => x.toNat < 128)=true) (hs:s.size ≤ 4000):lex_run.f s set=some (((s.data.toList.takeWhile (set.data.toList.contains ·)).length:Nat):Int):=by
 unfold lex_run.f lex_cutLeft.f
 rw [if_pos hset,if_pos (by omega)]
 simp only [Option.bind_some]
 congr 1
 rw [ba_size]
 have h:=dropWhile_length (set.data.toList.contains ·) s.data.toList
 have e:s.data.toList.length=s.size:=by rw [Array.length_toList];rfl
 unfold wrap64
 omega
theorem skip_true (l:List UInt8):Lx.skipA true l=Lx.skipA false ((l.dropWhile (· != 10)).drop 1):=by
 induction l with
 | nil => rfl
 | cons c r ih =>
  by_cases hc:c=10
  ·subst hc;simp [Lx.skipA]
  ·have h1:(c == 10)=false:=by simpa using hc
   have h2:(c != 10)=true:=by simpa using hc
   simp only [Lx.skipA,h1,List.dropWhile,h2,ih]
   rfl
theorem skip_false (l:List UInt8):Lx.skipA false l=if ([45,45]:List UInt8).isPrefixOf (l.dropWhile Lx.isBlank) then Lx.skipA false (((l.dropWhile Lx.isBlank).dropWhile (· != 10)).drop 1) else l.dropWhile Lx.isBlank:=by
 induction l with
 | nil => rfl
 | cons c r ih =>
  by_cases hb:Lx.isBlank c=true
  ·simp only [Lx.skipA,hb,if_true,List.dropWhile]
   exact ih
  ·have hb':Lx.isBlank c=false:=by simpa using hb
   simp only [Lx.skipA,hb',List.dropWhile]
   by_cases hc:c=45
   ·subst hc
    cases r with
    | nil => rfl
    | cons d r =>
     by_cases hd:d=45
     ·subst hd
      simp [skip_true,List.isPrefixOf]
     ·have h1:((45:UInt8) == d)=false:=by simpa using Ne.symm hd
      simp [List.isPrefixOf,hd,h1]
   ·have h1:((45:UInt8) == c)=false:=by simpa using Ne.symm hc
    have h2:(c == 45)=false:=by simpa using hc
    simp [List.isPrefixOf,hc,h1]
theorem dropWhile_le {α} (p:α → Bool) (l:List α):(l.dropWhile p).length ≤ l.length:=(List.dropWhile_sublist p).length_le
theorem skip_is:∀ (n k:Nat) (s:ByteArray),s.size ≤ n → n < k → s.size ≤ 4000 → lex_skip.f k s=some (ba (Lx.skipA false s.data.toList)):=by
 intro n
 induction n with
 | zero =>
  intro k s hs hk h4
  obtain ⟨k,rfl⟩:∃ m,k=m + 1:=⟨k - 1,by omega⟩
  have e:s.data.toList=[]:=by
   apply List.eq_nil_of_length_eq_zero
   rw [Array.length_toList]
   have:s.data.size=s.size:=rfl
   omega
  unfold lex_skip.f
  simp only [lex_skip.l0,strings_TrimLeft.f,strings_HasPrefix.f,if_true,Option.bind_some,e,ba_data]
  rfl
 | succ n ih =>
  intro k s hs hk h4
  obtain ⟨k,rfl⟩:∃ m,k=m + 1:=⟨k - 1,by omega⟩
  have hl:s.data.toList.length=s.size:=by rw [Array.length_toList];rfl
  have hb:∀ l:List UInt8,l.dropWhile ([32,9,10,13].contains ·)=l.dropWhile Lx.isBlank:=fun l => by rw [show (([32,9,10,13]:List UInt8).contains ·)=Lx.isBlank from funext blank_is]
  unfold lex_skip.f
  simp only [lex_skip.l0,strings_TrimLeft.f,strings_HasPrefix.f,if_true,Option.bind_some,ba_data,hb]
  rw [skip_false]
  by_cases hp:([45,45]:List UInt8).isPrefixOf (s.data.toList.dropWhile Lx.isBlank)=true
  ·have hp':(⟨#[45,45]⟩:ByteArray).data.toList.isPrefixOf (s.data.toList.dropWhile Lx.isBlank)=true:=hp
   rw [if_pos hp',if_pos hp]
   have h1:=dropWhile_le Lx.isBlank s.data.toList
   have hlen:0 < (s.data.toList.dropWhile Lx.isBlank).length:=by
    rw [List.length_pos_iff]
    intro e
    rw [e] at hp
    simp at hp
   have hsz:(ba (s.data.toList.dropWhile Lx.isBlank)).size < 4294967281:=by rw [ba_size];omega
   simp only [strings_Cut.f,if_true,if_pos hsz,Option.bind_some,ba_data]
   have h2:=dropWhile_le (· != 10) (s.data.toList.dropWhile Lx.isBlank)
   have h3:=ih k (ba (((s.data.toList.dropWhile Lx.isBlank).dropWhile (· != 10)).drop 1)) (by rw [ba_size,List.length_drop];omega) (by omega) (by rw [ba_size,List.length_drop];omega)
   unfold lex_skip.f at h3
   rw [h3,ba_data]
  ·have hp':¬ (⟨#[45,45]⟩:ByteArray).data.toList.isPrefixOf (s.data.toList.dropWhile Lx.isBlank)=true:=hp
   rw [if_neg hp',if_neg hp]
def tokFlat:Except Nat (Lx.Tk × Nat) → Int × ByteArray × Int × Int × Int
 | .ok (t,n) => (t.kind,ba t.s,t.n,n,0)
 | .error e => (0,⟨#[]⟩,0,0,e)
theorem take_takeWhile {α} (p:α → Bool) (l:List α):l.take (l.takeWhile p).length=l.takeWhile p:=by
 conv => lhs;arg 2;rw [← List.takeWhile_append_dropWhile (p:=p) (l:=l)]
 rw [List.take_left]
theorem part_ascii (c:UInt8):Lx.isPart c=true → c.toNat < 128:=all_bytes (p:=fun c => Lx.isPart c=true → c.toNat < 128) (by decide +kernel) c
theorem mem_takeWhile {α} {p:α → Bool} {l:List α} {x:α} (h:x ∈ l.takeWhile p):p x=true:=by
 have:=List.all_takeWhile (p:=p) (l:=l)
 exact List.all_eq_true.1 this x h
theorem word_is (s:ByteArray) (hs:s.size ≤ 4000):lex_word.f s=some (tokFlat (Lx.wordA s.data.toList)):=by
 unfold lex_word.f
 have hr:=run_is s behB (by decide +kernel) hs
 rw [takeWhile_cong beh_is] at hr
 have hr':lex_run.f s (⟨#[97,98,99,100,101,102,103,104,105,106,107,108,109,110,111,112,113,114,115,116,117,118,119,120,121,122,65,66,67,68,69,70,71,72,73,74,75,76,77,78,79,80,81,82,83,84,85,86,87,88,89,90,48,49,50,51,52,53,54,55,56,57,95]⟩:ByteArray)=_:=hr
 rw [hr']
 simp only [Option.bind_some]
 unfold Lx.wordA
 have hl:s.data.toList.length=s.size:=by rw [Array.length_toList];rfl
 have hle:=Lx.takeWhile_le Lx.isPart s.data.toList
 by_cases h30:(s.data.toList.takeWhile Lx.isPart).length > 30
 ·rw [if_pos (by omega),if_pos h30]
  rfl
 ·rw [if_neg (by omega),if_neg h30,if_pos (by omega),if_pos (by omega)]
  have he:(s.extract 0 (((s.data.toList.takeWhile Lx.isPart).length:Nat):Int).toNat).data.toList=s.data.toList.takeWhile Lx.isPart:=by
   rw [Lib.extract_data,Int.toNat_natCast,List.drop_zero,Nat.sub_zero,take_takeWhile]
  have hsz:(s.extract 0 (((s.data.toList.takeWhile Lx.isPart).length:Nat):Int).toNat).size=(s.data.toList.takeWhile Lx.isPart).length:=by
   have e:∀ b:ByteArray,b.size=b.data.toList.length:=fun b => by rw [Array.length_toList];rfl
   rw [e,he]
  unfold strings_ToLower.f
  rw [he,if_pos,if_pos (by rw [hsz];omega)]
  ·simp only [Option.bind_some]
   rfl
  ·rw [List.all_eq_true]
   intro x hx
   have:=part_ascii x (mem_takeWhile hx)
   simpa using this
theorem bt_of (s:ByteArray) (i:Nat) (c:UInt8) (h:s.data.toList[i]? = some c):bt s (i:Int)=(c.toNat:Int):=by
 have hi:i < s.data.toList.length:=(List.getElem?_eq_some_iff.1 h).1
 have hl:s.data.toList.length=s.size:=by rw [Array.length_toList];rfl
 unfold bt
 rw [dif_pos (show (i:Int).toNat < s.size by rw [Int.toNat_natCast];omega)]
 congr 2
 obtain ⟨h1,h2⟩:=List.getElem?_eq_some_iff.1 h
 exact h2
theorem ba_take (s:ByteArray) (n:Nat):s.extract 0 n=ba (s.data.toList.take n):=by
 apply ba_ext'
 rw [Lib.extract_data,ba_data,List.drop_zero,Nat.sub_zero]
abbrev oneB:ByteArray:=⟨#[40,41,44,42,43,45,47,37,61,60,62,59]⟩
theorem sign_j (s:ByteArray) (c:UInt8) (hc:s.data.toList[0]? = some c) (x:ByteArray) (b:Bool) :
  lex_sign.j0 1 s x b=if b=true then some (4,x,0,2,0) else if Lx.ones.contains c then some (4,ba [c],0,1,0) else some (0,⟨#[]⟩,0,0,20):=by
 have hb0:=bt_of s 0 c hc
 have hi:0 < s.data.toList.length:=(List.getElem?_eq_some_iff.1 hc).1
 have hl:s.data.toList.length=s.size:=by rw [Array.length_toList];rfl
 have hh:lex_has.f (⟨#[40,41,44,42,43,45,47,37,61,60,62,59]⟩:ByteArray) (bt s 0)=some (Lx.ones.contains c):=by
  rw [show bt s 0=(c.toNat:Int) from hb0]
  exact has_is oneB c
 simp only [lex_sign.j0]
 cases b with
 | true => rfl
 | false =>
  simp only [Bool.false_eq_true,if_false]
  rw [if_pos (by omega),hh]
  simp only [Option.bind_some]
  by_cases ho:Lx.ones.contains c=true
  ·rw [if_pos ho,if_pos ho,if_pos (by decide),if_pos (by omega),ba_take]
   congr 3
   have:s.data.toList.take 1=[c]:=by
    cases hq:s.data.toList with
    | nil => rw [hq] at hi;simp at hi
    | cons q r => rw [hq] at hc;simp at hc;subst hc;rfl
   rw [this]
  ·rw [if_neg ho,if_neg ho]
theorem sign_of (s:ByteArray) (c:UInt8) (r:List UInt8) (hl:s.data.toList=c :: r):lex_sign.f 1 s=some (tokFlat (Lx.signT s.data.toList)):=by
 have hsz:s.size=r.length + 1:=by
  have:s.data.toList.length=s.size:=by rw [Array.length_toList];rfl
  rw [hl] at this
  simpa using this.symm
 have hc:s.data.toList[0]? = some c:=by rw [hl];rfl
 have hj:=sign_j s c hc
 have hb0:=bt_of s 0 c hc
 have hh:lex_has.f (⟨#[40,41,44,42,43,45,47,37,61,60,62,59]⟩:ByteArray) (bt s 0)=some (Lx.ones.contains c):=by
  rw [show bt s 0=(c.toNat:Int) from hb0]
  exact has_is oneB c
 unfold lex_sign.f
 cases r with
 | nil =>
  simp only [List.length_nil,Nat.zero_add] at hsz
  rw [if_neg (by omega),if_pos (by omega),hh]
  simp only [Option.bind_some]
  unfold Lx.signT Lx.signA
  rw [hl]
  have h1:Lx.twos.contains (List.take 2 [c])=false:=by simp [Lx.twos]
  rw [h1]
  simp only [Bool.false_eq_true,if_false]
  by_cases ho:Lx.ones.contains c=true
  ·rw [if_pos ho,if_pos ho,if_pos (by decide),if_pos (by omega),ba_take,hl]
   rfl
  ·rw [if_neg ho,if_neg ho]
   rfl
 | cons d r =>
  have h2:(s.extract 0 2).toList=[c,d]:=by rw [Lib.toList_data,ba_take,ba_data,hl];rfl
  have hx:s.extract 0 2=ba [c,d]:=by rw [ba_take,hl];rfl
  simp only [List.length_cons] at hsz
  rw [if_pos (by omega),if_pos (by decide),if_pos (by omega),h2]
  simp only [hj,hx]
  unfold Lx.signT Lx.signA
  rw [hl]
  simp only [List.take_succ_cons,List.take_zero]
  have ht:Lx.twos.contains [c,d]=(([c,d] == [60,61]) || (([c,d] == [62,61]) || (([c,d] == [60,62]) || ([c,d] == [124,124])))):=by simp only [Lx.twos,List.contains_cons,List.contains_nil,Bool.or_false]
  simp only [ht]
  by_cases e1:[c,d]=[60,61]
  ·rw [if_pos e1,e1];rfl
  ·rw [if_neg e1]
   have f1:([c,d] == [60,61])=false:=by simpa using e1
   by_cases e2:[c,d]=[62,61]
   ·rw [if_pos e2,e2];rfl
   ·rw [if_neg e2]
    have f2:([c,d] == [62,61])=false:=by simpa using e2
    by_cases e3:[c,d]=[60,62]
    ·rw [if_pos e3,e3];rfl
    ·rw [if_neg e3]
     have f3:([c,d] == [60,62])=false:=by simpa using e3
     rw [f1,f2,f3]
     simp only [Bool.false_or]
     by_cases e4:([c,d] == [124,124])=true
     ·rw [if_pos e4,if_pos e4];rfl
     ·rw [if_neg e4,if_neg e4]
      by_cases ho:Lx.ones.contains c=true
      ·rw [if_pos ho,if_pos ho];rfl
      ·rw [if_neg ho,if_neg ho];rfl
end Go.Proofs.YtcgdncpioafbdaaGreatDoor.Q
namespace Go.Proofs.YtcgdncpioafbdaaGreatDoor.Lx
theorem toks_cong {l m:List UInt8} (h:skipA false l=skipA false m):toks l=toks m:=by
 cases hs:skipA false l with
 | nil => exact (toks_nil hs).trans (toks_nil (h.symm.trans hs)).symm
 | cons c r =>
  cases ht:tokA (c :: r) with
  | error e => exact (toks_err hs ht).trans (toks_err (h.symm.trans hs) ht).symm
  | ok p => obtain ⟨t,n⟩:=p;exact (toks_ok hs ht).trans (toks_ok (h.symm.trans hs) ht).symm
end Go.Proofs.YtcgdncpioafbdaaGreatDoor.Lx
namespace Go.Proofs.YtcgdncpioafbdaaGreatDoor.Q
open Go Go.RowKit Go.Proofs.YtcgdncpioafbdaaGreatDoorW.PrintWords
theorem more {α:Type} {f:Nat → Option α} (hf:∀ k,LeO (f k) (f (k + 1))) {k:Nat} {r:α} (h:f k=some r):∀ j,f (k + j)=some r
 | 0 => h
 | j + 1 => hf (k + j) r (more hf h j)
theorem w64 {x:Int} (h1:-9223372036854775808 ≤ x) (h2:x ≤ 9223372036854775807):wrap64 x=x:=by unfold wrap64;omega
theorem bt_get (s:ByteArray) (i:Nat) (h:i < s.size):bt s (i:Int)=((s[i]'h).toNat:Int):=by
 unfold bt
 rw [dif_pos (by simpa using h)]
 rfl
theorem drop_get (s:ByteArray) (k:Nat) (h:k < s.size):s.data.toList.drop k=s[k]'h :: s.data.toList.drop (k + 1):=by
 have hl:s.data.toList.length=s.size:=by rw [Array.length_toList];rfl
 rw [List.drop_eq_getElem_cons (by omega)]
 rfl
theorem len_data (s:ByteArray):s.data.toList.length=s.size:=by rw [Array.length_toList];rfl
theorem u8_nat {c:UInt8} {n:Nat} (h:(c.toNat:Int)=(n:Int)) (hn:n < 256):c=UInt8.ofNat n:=by
 apply UInt8.toNat_inj.1
 have:(UInt8.ofNat n).toNat=n:=by simp;omega
 omega
end Go.Proofs.YtcgdncpioafbdaaGreatDoor.Q
namespace Go.Proofs.YtcgdncpioafbdaaGreatDoor.Lx
open Go.Proofs.YtcgdncpioafbdaaGreatDoor.Q (dupQ digA digits joinB)
theorem all8 {p:UInt8 → Prop} [DecidablePred p] (h:∀ n:Fin 256,p (UInt8.ofNat n)) (c:UInt8):p c:=by
 have:=h ⟨c.toNat,c.toNat_lt⟩
 simpa using this
def piece (t:Tk):List UInt8:=if t.kind=2 then digits t.n else if t.kind=3 then 39 :: (dupQ t.s ++ [39]) else t.s
structure GoodW (t:Tk):Prop where
 kind:t.kind=1
 n:t.n=0
 head:∃ c r,t.s=c :: r∧isLetter c=true
 part:∀ c ∈ t.s,isPart c=true
 low:t.s.map lowerB=t.s
 len:t.s.length ≤ 30
structure GoodN (t:Tk):Prop where
 kind:t.kind=2
 s:t.s=[]
 n:t.n ≤ 9223372036854775807
structure GoodS (t:Tk):Prop where
 kind:t.kind=3
 n:t.n=0
 len:t.s.length ≤ 200
structure GoodG (t:Tk):Prop where
 kind:t.kind=4
 n:t.n=0
 s:t.s ∈ twos ∨ ∃ c,c ∈ ones∧t.s=[c]
def Good (t:Tk):Prop:=GoodW t ∨ GoodN t ∨ GoodS t ∨ GoodG t
theorem low_letter (c:UInt8):isLetter c=true → isLetter (lowerB c)=true:=all8 (p:=fun c => isLetter c=true → isLetter (lowerB c)=true) (by decide +kernel) c
theorem low_part (c:UInt8):isPart c=true → isPart (lowerB c)=true:=all8 (p:=fun c => isPart c=true → isPart (lowerB c)=true) (by decide +kernel) c
theorem low_low (c:UInt8):lowerB (lowerB c)=lowerB c:=all8 (p:=fun c => lowerB (lowerB c)=lowerB c) (by decide +kernel) c
theorem dig_val (c:UInt8):isDigit c=true → c.toNat - 48 < 10:=all8 (p:=fun c => isDigit c=true → c.toNat - 48 < 10) (by decide +kernel) c
theorem mem_tw {α} {p:α → Bool} {l:List α} {x:α} (h:x ∈ l.takeWhile p):p x=true:=List.all_eq_true.1 (List.all_takeWhile (p:=p) (l:=l)) x h
theorem digA_len:∀ (k n:Nat),1 ≤ k → n < 10 ^ k → (digA k n).length ≤ k
 | 0,n,h,_ => by omega
 | k + 1,n,_,h => by
  simp only [digA]
  split
  ·simp
  ·rename_i hn
   have hk:1 ≤ k:=by
    rcases Nat.eq_zero_or_pos k with rfl | h1
    ·simp at h;omega
    ·exact h1
   have:=digA_len k (n / 10) hk (by rw [Nat.pow_succ] at h;omega)
   simp;omega
theorem digA_more:∀ (k n j:Nat),1 ≤ k → n < 10 ^ k → digA (k + j) n=digA k n
 | 0,n,j,h,_ => by omega
 | k + 1,n,j,_,h => by
  rw [show k + 1 + j=(k + j) + 1 by omega]
  simp only [digA]
  split
  ·rfl
  ·rename_i hn
   have hk:1 ≤ k:=by
    rcases Nat.eq_zero_or_pos k with rfl | h1
    ·simp at h;omega
    ·exact h1
   rw [digA_more k (n / 10) j hk (by rw [Nat.pow_succ] at h;omega)]
theorem digits_eq {n k:Nat} (hk:1 ≤ k) (h:n < 10 ^ k) (h20:n < 10 ^ 20):digits n=digA k n:=by
 unfold digits
 rcases Nat.le_total k 20 with h1 | h1
 ·obtain ⟨j,hj⟩:=Nat.exists_eq_add_of_le h1
  rw [hj]
  exact digA_more k n j hk h
 ·obtain ⟨j,hj⟩:=Nat.exists_eq_add_of_le h1
  rw [hj]
  exact (digA_more 20 n j (by decide) h20).symm
theorem digit_of {n:Nat} (h:n < 10):isDigit (UInt8.ofNat (48 + n))=true∧(UInt8.ofNat (48 + n)).toNat - 48=n:=by
 have:∀ m:Fin 10,isDigit (UInt8.ofNat (48 + m))=true∧(UInt8.ofNat (48 + m)).toNat - 48=m:=by decide
 exact this ⟨n,h⟩
theorem digA_digit:∀ (k n:Nat),∀ c ∈ digA k n,isDigit c=true
 | 0,n,c,h => by simp [digA] at h
 | k + 1,n,c,h => by
  simp only [digA] at h
  split at h
  ·rename_i hn
   rw [List.mem_singleton] at h;subst h
   exact (digit_of hn).1
  ·rcases List.mem_append.1 h with h | h
   ·exact digA_digit k _ c h
   ·rw [List.mem_singleton] at h;subst h
    exact (digit_of (Nat.mod_lt n (by decide))).1
theorem digA_ne:∀ (k n:Nat),1 ≤ k → digA k n ≠ []
 | 0,n,h => by omega
 | k + 1,n,_ => by
  simp only [digA]
  split <;> simp
theorem numVal_snoc (l:List UInt8) (c:UInt8):numVal (l ++ [c])=numVal l * 10 + (c.toNat - 48):=by unfold numVal;rw [List.foldl_append];rfl
theorem digA_val:∀ (k n:Nat),1 ≤ k → n < 10 ^ k → numVal (digA k n)=n
 | 0,n,h,_ => by omega
 | k + 1,n,_,h => by
  simp only [digA]
  split
  ·rename_i hn
   have:=numVal_snoc [] (UInt8.ofNat (48 + n))
   simp only [List.nil_append] at this
   rw [this,(digit_of hn).2]
   have e:numVal []=0:=rfl
   omega
  ·rename_i hn
   have hk:1 ≤ k:=by
    rcases Nat.eq_zero_or_pos k with rfl | h1
    ·simp at h;omega
    ·exact h1
   rw [numVal_snoc,digA_val k (n / 10) hk (by rw [Nat.pow_succ] at h;omega),(digit_of (Nat.mod_lt n (by decide))).2]
   omega
theorem fold_lt:∀ (l:List UInt8) (acc:Nat),(∀ c ∈ l,isDigit c=true) → l.foldl (fun a c => a * 10 + (c.toNat - 48)) acc < (acc + 1) * 10 ^ l.length
 | [],acc,_ => by simp
 | c :: r,acc,h => by
  have h1:=fold_lt r (acc * 10 + (c.toNat - 48)) (fun x hx => h x (by simp [hx]))
  have h2:=dig_val c (h c (by simp))
  rw [List.foldl_cons,List.length_cons,Nat.pow_succ]
  refine Nat.lt_of_lt_of_le h1 ?_
  have h3:acc * 10 + (c.toNat - 48) + 1 ≤ (acc + 1) * 10:=by omega
  have h4:=Nat.mul_le_mul_right (10 ^ r.length) h3
  rw [show (acc + 1) * (10 ^ r.length * 10)=(acc + 1) * 10 * 10 ^ r.length by rw [Nat.mul_comm (10 ^ r.length) 10,Nat.mul_assoc]]
  exact h4
theorem numVal_lt (l:List UInt8) (h:∀ c ∈ l,isDigit c=true):numVal l < 10 ^ l.length:=by
 have:=fold_lt l 0 h
 rw [Nat.zero_add,Nat.one_mul] at this
 exact this
theorem strA_two (r:List UInt8):strA (39 :: 39 :: r)=(strA r).map fun p => (39 :: p.1,p.2 + 2):=by simp [strA]
theorem strA_one (c:UInt8) (r:List UInt8) (h:(c == 39)=false):strA (c :: r)=(strA r).map fun p => (c :: p.1,p.2 + 1):=by
 cases r with
 | nil => simp only [strA,h];rfl
 | cons d r => simp only [strA,h];rfl
theorem strA_dup:∀ (t:List UInt8),strA (dupQ t ++ [39])=some (t,(dupQ t).length + 1)
 | [] => by simp [dupQ,strA]
 | c :: r => by
  simp only [dupQ]
  have ih:=strA_dup r
  split
  ·rename_i hc
   have hc:c=39:=by simpa using hc
   subst hc
   rw [List.cons_append,List.cons_append,strA_two,ih]
   simp
  ·rename_i hc
   have hc:(c == 39)=false:=by simpa using hc
   rw [List.cons_append,strA_one c _ hc,ih]
   simp
theorem strA_dupLen:∀ (l t:List UInt8) (n:Nat),strA l=some (t,n) → (dupQ t).length + 1 ≤ n
 | [],t,n,h => by simp [strA] at h
 | [c],t,n,h => by
  simp only [strA] at h
  split at h
  ·simp at h;obtain ⟨rfl,rfl⟩:=h;simp [dupQ]
  ·simp at h
 | c :: d :: r,t,n,h => by
  simp only [strA] at h
  split at h
  ·split at h
   ·cases hs:strA r with
    | none => simp [hs] at h
    | some p =>
     obtain ⟨t',n'⟩:=p
     have:=strA_dupLen r t' n' hs
     simp [hs] at h
     obtain ⟨rfl,rfl⟩:=h
     simp [dupQ];omega
   ·simp at h;obtain ⟨rfl,rfl⟩:=h;simp [dupQ]
  ·rename_i hc
   cases hs:strA (d :: r) with
   | none => simp [hs] at h
   | some p =>
    obtain ⟨t',n'⟩:=p
    have:=strA_dupLen (d :: r) t' n' hs
    simp [hs] at h
    obtain ⟨rfl,rfl⟩:=h
    simp only [dupQ]
    rw [if_neg hc]
    simp;omega
theorem pow20 {n:Nat} (h:n ≤ 9223372036854775807):n < 10 ^ 20:=by
 have:(10:Nat) ^ 20=100000000000000000000:=by decide
 omega
theorem tokA_good {l:List UInt8} {t:Tk} {n:Nat} (h:tokA l = .ok (t,n)):Good t∧(piece t).length ≤ n:=by
 cases l with
 | nil => simp [tokA] at h
 | cons c r =>
  simp only [tokA] at h
  split at h
  ·rename_i hc
   unfold wordA at h
   split at h
   ·simp at h
   ·rename_i hlen
    simp only [Except.ok.injEq,Prod.mk.injEq] at h
    obtain ⟨rfl,rfl⟩:=h
    have hp:=isPart_letter hc
    refine ⟨.inl ⟨rfl,rfl,?_,?_,?_,?_⟩,?_⟩
    ·refine ⟨lowerB c,(r.takeWhile isPart).map lowerB,?_,low_letter c hc⟩
     simp [List.takeWhile,hp]
    ·intro x hx
     simp only [List.mem_map] at hx
     obtain ⟨y,hy,rfl⟩:=hx
     exact low_part y (mem_tw hy)
    ·simp [low_low]
    ·simp only [List.length_map];omega
    ·simp [piece]
  ·split at h
   ·rename_i hc hd
    unfold numA at h
    split at h
    ·simp at h
    ·split at h
     ·simp at h
     ·rename_i hv
      simp only [Except.ok.injEq,Prod.mk.injEq] at h
      obtain ⟨rfl,rfl⟩:=h
      have hv':=Nat.le_of_not_gt hv
      refine ⟨.inr (.inl ⟨rfl,rfl,hv'⟩),?_⟩
      have h1:1 ≤ ((c :: r).takeWhile isDigit).length:=by simp [List.takeWhile,hd]
      have h2:=numVal_lt ((c :: r).takeWhile isDigit) (fun x hx => mem_tw hx)
      show (digits (numVal ((c :: r).takeWhile isDigit))).length ≤ _
      rw [digits_eq h1 h2 (pow20 hv')]
      exact digA_len _ _ h1 h2
   ·split at h
    ·unfold textA at h
     split at h
     ·simp at h
     ·rename_i t' n' hs
      split at h
      ·simp at h
      ·rename_i hlen
       simp only [Except.ok.injEq,Prod.mk.injEq] at h
       obtain ⟨rfl,rfl⟩:=h
       have:=strA_dupLen _ _ _ hs
       refine ⟨.inr (.inr (.inl ⟨rfl,rfl,Nat.le_of_not_gt hlen⟩)),?_⟩
       show (39 :: (dupQ t' ++ [39])).length ≤ _
       simp;omega
    ·unfold signT at h
     split at h
     ·simp at h
     ·rename_i t' hs
      simp only [Except.ok.injEq,Prod.mk.injEq] at h
      obtain ⟨rfl,rfl⟩:=h
      refine ⟨.inr (.inr (.inr ⟨rfl,rfl,?_⟩)),Nat.le_refl _⟩
      unfold signA at hs
      split at hs
      ·rename_i h2
       cases hs
       exact .inl (by simpa using h2)
      ·simp only at hs
       split at hs
       ·rename_i ho
        cases hs
        exact .inr ⟨c,by simpa using ho,rfl⟩
       ·cases hs
theorem tw_all {α} (p:α → Bool) (l:List α) (h:∀ x ∈ l,p x=true):l.takeWhile p=l:=by
 induction l with
 | nil => rfl
 | cons c r ih => simp [List.takeWhile,h c (by simp),ih (fun x hx => h x (by simp [hx]))]
theorem dw_all {α} (p:α → Bool) (l:List α) (h:∀ x ∈ l,p x=true):l.dropWhile p=[]:=by
 induction l with
 | nil => rfl
 | cons c r ih => simp [List.dropWhile,h c (by simp),ih (fun x hx => h x (by simp [hx]))]
theorem digit_letter (c:UInt8):isDigit c=true → isLetter c=false:=all8 (p:=fun c => isDigit c=true → isLetter c=false) (by decide +kernel) c
theorem tokA_piece {t:Tk} (h:Good t):∃ c r,piece t=c :: r∧tokA (c :: r) = .ok (t,(c :: r).length)∧isBlank c=false∧(c=45 → r=[]):=by
 rcases h with ⟨hk,hn,⟨c,r,hs,hl⟩,hp,hlow,hlen⟩ | ⟨hk,hs,hn⟩ | ⟨hk,hn,hlen⟩ | ⟨hk,hn,hs⟩
 ·obtain ⟨k,s,n⟩:=t
  simp only at hk hn hs hp hlow hlen
  subst hk hn hs
  have h1:=tw_all isPart (c :: r) hp
  refine ⟨c,r,rfl,?_,?_,?_⟩
  ·simp only [tokA,hl,if_true]
   unfold wordA
   rw [h1,hlow,if_neg (by omega)]
  ·have:∀ c:UInt8,isLetter c=true → isBlank c=false:=fun c => all8 (p:=fun c => isLetter c=true → isBlank c=false) (by decide +kernel) c
   exact this c hl
  ·intro e;subst e;exact absurd hl (by decide)
 ·obtain ⟨k,s,n⟩:=t
  simp only at hk hn hs
  subst hk hs
  have hd:=digA_digit 20 n
  have hv:=digA_val 20 n (by decide) (pow20 hn)
  have hne:=digA_ne 20 n (by decide)
  have e:piece ⟨2,[],n⟩=digA 20 n:=rfl
  cases hx:digA 20 n with
  | nil => exact absurd hx hne
  | cons c r =>
   rw [hx] at hd hv
   have hc:=hd c (by simp)
   refine ⟨c,r,by rw [e,hx],?_,?_,?_⟩
   ·simp only [tokA,digit_letter c hc,hc,if_true]
    unfold numA
    rw [tw_all isDigit _ hd,dw_all isDigit _ hd,hv]
    rw [if_neg (Nat.not_lt.2 hn)]
    rfl
   ·have:∀ c:UInt8,isDigit c=true → isBlank c=false:=fun c => all8 (p:=fun c => isDigit c=true → isBlank c=false) (by decide +kernel) c
    exact this c hc
   ·intro e;subst e;exact absurd hc (by decide)
 ·obtain ⟨k,s,n⟩:=t
  simp only at hk hn hlen
  subst hk hn
  refine ⟨39,dupQ s ++ [39],rfl,?_,by decide,fun h => absurd h (by decide)⟩
  have h1:isLetter 39=false:=by decide
  have h2:isDigit 39=false:=by decide
  simp only [tokA,h1,h2]
  unfold textA
  rw [strA_dup]
  simp only
  rw [if_neg (Nat.not_lt.2 hlen)]
  simp
 ·obtain ⟨k,s,n⟩:=t
  simp only at hk hn hs
  subst hk hn
  have:∀ s,(s ∈ twos ∨ s ∈ ones.map (fun c => [c])) → ∃ c r,s=c :: r∧tokA (c :: r) = .ok (⟨4,s,0⟩,(c :: r).length)∧isBlank c=false∧(c=45 → r=[]):=by
   intro s h
   simp only [twos,ones,List.map_cons,List.map_nil,List.mem_cons,List.mem_nil_iff,or_false] at h
   rcases h with (rfl | rfl | rfl | rfl) | (rfl | rfl | rfl | rfl | rfl | rfl | rfl | rfl | rfl | rfl | rfl | rfl)
   all_goals exact ⟨_,_,rfl,by rfl,by decide,by decide⟩
  refine this s ?_
  rcases hs with h | ⟨c,hc,rfl⟩
  ·exact .inl h
  ·exact .inr (List.mem_map.2 ⟨c,hc,rfl⟩)
end Go.Proofs.YtcgdncpioafbdaaGreatDoor.Lx
namespace Go.Proofs.YtcgdncpioafbdaaGreatDoor.Q
open Go Go.RowKit Go.Proofs.YtcgdncpioafbdaaGreatDoorW.PrintWords
theorem dupQ_le:∀ l:List UInt8,(dupQ l).length ≤ 2 * l.length
 | [] => by simp [dupQ]
 | c :: r => by
  have:=dupQ_le r
  simp only [dupQ]
  split <;> simp <;> omega
theorem ba_app (a b:List UInt8):ba a ++ ba b=ba (a ++ b):=ba_ext' (by simp [ba])
theorem take_snoc {α} (l:List α) (i:Nat) (h:i < l.length):l.take (i + 1)=l.take i ++ [l[i]]:=by rw [List.take_succ_eq_append_getElem h]
theorem refDigits:∀ (j k n:Nat),1 ≤ j → n < 10 ^ j → j ≤ k → j ≤ 100 → n ≤ 9223372036854775807 → vidimusref16_Digits.f k (n:Int)=some (ba (digA j n))
 | 0,k,n,h,_,_,_,_ => by omega
 | j + 1,k,n,_,h,hk,hj100,hn => by
  obtain ⟨k,rfl⟩:∃ m,k=m + 1:=⟨k - 1,by omega⟩
  rw [vidimusref16_Digits.f]
  simp only [digA]
  have hx:∀ m:Nat,m < 10 → strOfNums [wrap64 (48 + (m:Int)) % 256]=ba [UInt8.ofNat (48 + m)]:=by
   intro m hm
   rw [w64 (by omega) (by omega)]
   have e:(48 + (m:Int)) % 256=((48 + m:Nat):Int):=by omega
   rw [e]
   show ba [UInt8.ofNat (((48 + m:Nat):Int)).toNat]=_
   rw [Int.toNat_natCast]
  by_cases h10:n < 10
  ·rw [if_pos (by omega),if_pos h10,hx n h10]
  ·rw [if_neg (by omega),if_neg h10]
   have hj:1 ≤ j:=by
    rcases Nat.eq_zero_or_pos j with rfl | h1
    ·simp at h;omega
    ·exact h1
   have hq:Int.tdiv (n:Int) 10=((n / 10:Nat):Int):=by rw [Int.tdiv_eq_ediv_of_nonneg (by omega)];omega
   have hr:Int.tmod (n:Int) 10=((n % 10:Nat):Int):=by rw [Int.tmod_eq_emod_of_nonneg (by omega)];omega
   rw [hq,hr,w64 (by omega) (by omega),refDigits j k (n / 10) hj (by rw [Nat.pow_succ] at h;omega) (by omega) (by omega) (by omega)]
   simp only [Option.bind_some]
   rw [hx (n % 10) (Nat.mod_lt _ (by decide)),if_pos,ba_app]
   rw [ba_size,ba_size]
   have:=Lx.digA_len j (n / 10) hj (by rw [Nat.pow_succ] at h;omega)
   simp
   omega
theorem dupQ_snoc (l:List UInt8) (c:UInt8):dupQ (l ++ [c])=dupQ l ++ (if c=39 then [39,39] else [c]):=by
 induction l with
 | nil =>
  by_cases hc:c=39
  ·subst hc;rfl
  ·have:(c == 39)=false:=by simpa using hc
   simp [dupQ,hc]
 | cons d r ih =>
  simp only [List.cons_append,dupQ,ih]
  split <;> simp
theorem take_get (s:ByteArray) (i:Nat) (h:i < s.size):s.data.toList.take (i + 1)=s.data.toList.take i ++ [s[i]'h]:=by
 have hl:i < s.data.toList.length:=by rw [len_data];exact h
 rw [take_snoc _ i hl]
 rfl
theorem one_byte (s:ByteArray) (i:Nat) (h:i < s.size):s.extract i (i + 1)=ba [s[i]'h]:=by
 apply ba_ext'
 rw [Lib.extract_data,drop_get s i h,ba_data]
 simp
theorem refQuoted_l:∀ (n k:Nat) (s:ByteArray) (i:Nat),s.size - i=n → n < k → i ≤ s.size → s.size ≤ 500 →
  vidimusref16_Quoted.l0 k s (ba (39 :: dupQ (s.data.toList.take i))) (i:Int)=some (ba (39 :: (dupQ s.data.toList ++ [39]))):=by
 intro n
 induction n with
 | zero =>
  intro k s i h1 h2 h3 h4
  obtain ⟨k,rfl⟩:∃ m,k=m + 1:=⟨k - 1,by omega⟩
  have hd:=dupQ_le s.data.toList
  rw [len_data] at hd
  rw [vidimusref16_Quoted.l0,if_neg (by omega),List.take_of_length_le (by rw [len_data];omega),if_pos (by rw [ba_size];simp;omega)]
  show some (ba (39 :: dupQ s.data.toList) ++ ba [39])=_
  rw [ba_app]
  rfl
 | succ n ih =>
  intro k s i h1 h2 h3 h4
  obtain ⟨k,rfl⟩:∃ m,k=m + 1:=⟨k - 1,by omega⟩
  have hi:i < s.size:=by omega
  have hd:=dupQ_le (s.data.toList.take i)
  rw [List.length_take,len_data] at hd
  have hw:wrap64 ((i:Int) + 1)=((i + 1:Nat):Int):=by rw [w64 (by omega) (by omega)];omega
  have step:=ih k s (i + 1) (by omega) (by omega) (by omega) h4
  rw [take_get s i hi,dupQ_snoc] at step
  rw [vidimusref16_Quoted.l0,if_pos (by omega),if_pos (by omega),bt_get s i hi,hw,Int.toNat_natCast,Int.toNat_natCast,one_byte s i hi]
  have hb:(ba (39 :: dupQ (s.data.toList.take i)) ++ (⟨#[39]⟩:ByteArray))=ba (39 :: dupQ (s.data.toList.take i) ++ [39]):=ba_app _ [39]
  by_cases hc:s[i]'hi=39
  ·rw [if_pos (by rw [hc];rfl),if_pos (by rw [ba_size];simp;omega),if_pos (by omega),if_pos (by omega),hb,if_pos (by rw [ba_size,ba_size];simp;omega),ba_app]
   rw [if_pos hc] at step
   rw [hc]
   simpa using step
  ·rw [if_neg (fun h:((s[i]'hi).toNat:Int)=39 => hc (u8_nat (n:=39) h (by decide))),if_pos (by omega),if_pos (by omega),if_pos (by rw [ba_size,ba_size];simp;omega),ba_app]
   rw [if_neg hc] at step
   simpa using step
theorem refQuoted (s:ByteArray) (k:Nat) (hk:s.size < k) (h:s.size ≤ 500):vidimusref16_Quoted.f k s=some (ba (39 :: (dupQ s.data.toList ++ [39]))):=by
 have:=refQuoted_l s.size k s 0 (by omega) hk (by omega) h
 unfold vidimusref16_Quoted.f
 exact this
end Go.Proofs.YtcgdncpioafbdaaGreatDoor.Q
namespace Go.Proofs.YtcgdncpioafbdaaGreatDoor.Q
open Go Go.RowKit Go.Proofs.YtcgdncpioafbdaaGreatDoorW.PrintWords
def lit (v:S40):ByteArray :=
 if v.f0=0 then ⟨#[110,117,108,108]⟩
 else if v.f0=1 then (if v.f1 < 0 then (⟨#[45]⟩:ByteArray) ++ ba (digA 20 (-v.f1).toNat) else ba (digA 20 v.f1.toNat))
 else ba (39 :: (dupQ v.f2.data.toList ++ [39]))
def innT (l:List ByteArray) (i:Nat):ByteArray:=match l[i]? with
 | some t => ((⟨#[40]⟩:ByteArray) ++ t) ++ (⟨#[41]⟩:ByteArray)
 | none => ⟨#[40,41]⟩
def bigB (s:ByteArray):Bool:=decide (Ps.binds s > 3) && !(s.toList == [105,115])
def txtB (op:ByteArray) (v:S40) (name:ByteArray) (l:List ByteArray):ByteArray :=
 if op.toList=[118,97,108] then lit v
 else if op.toList=[99,111,108] then name
 else if op.toList=[111,114] then (((innT l 0 ++ (⟨#[32]⟩:ByteArray)) ++ op) ++ (⟨#[32]⟩:ByteArray)) ++ innT l 1
 else if op.toList=[97,110,100] then (((innT l 0 ++ (⟨#[32]⟩:ByteArray)) ++ op) ++ (⟨#[32]⟩:ByteArray)) ++ innT l 1
 else if op.toList=[110,111,116] then (⟨#[110,111,116,32]⟩:ByteArray) ++ innT l 0
 else if op.toList=[110,101,103] then (⟨#[45]⟩:ByteArray) ++ innT l 0
 else if op.toList=[105,115,110,117,108,108] then innT l 0 ++ (⟨#[32,105,115,32,110,117,108,108]⟩:ByteArray)
 else if op.toList=[99,111,117,110,116] then ⟨#[99,111,117,110,116,40,42,41]⟩
 else if op.toList=[115,117,109] then op ++ innT l 0
 else if op.toList=[109,105,110] then op ++ innT l 0
 else if op.toList=[109,97,120] then op ++ innT l 0
 else if bigB op=true then (innT l 0 ++ op) ++ innT l 1
 else ⟨#[]⟩
mutual
def txt:S43 → ByteArray
 | ⟨op,v,name,l⟩ => txtB op v name (txts l)
def txts:List S43 → List ByteArray
 | [] => []
 | x :: l => txt x :: txts l
end
theorem txt_eq (x:S43):txt x=txtB x.f0 x.f1 x.f2 (txts x.f3):=by cases x;rw [txt]
theorem txts_map:∀ l:List S43,txts l=l.map txt
 | [] => by rw [txts];rfl
 | x :: l => by rw [txts,txts_map l];rfl
def inn (l:List S43) (i:Nat):ByteArray:=innT (txts l) i
theorem inn_def (l:List S43) (i:Nat):inn l i=innT (txts l) i:=rfl
theorem inn_some {l:List S43} {i:Nat} (h:i < l.length):inn l i=((⟨#[40]⟩:ByteArray) ++ txt l[i]) ++ (⟨#[41]⟩:ByteArray):=by
 unfold inn innT
 rw [txts_map,List.getElem?_map,List.getElem?_eq_getElem h]
 rfl
theorem inn_none {l:List S43} {i:Nat} (h:l.length ≤ i):inn l i=⟨#[40,41]⟩:=by
 unfold inn innT
 rw [txts_map,List.getElem?_map,List.getElem?_eq_none h]
 rfl
mutual
def TG:S43 → Prop
 | ⟨_,v,_,l⟩ => (-9223372036854775808 ≤ v.f1∧v.f1 ≤ 9223372036854775807∧v.f2.size ≤ 500)∧TGs l
def TGs:List S43 → Prop
 | [] => True
 | x :: l => TG x∧TGs l
end
theorem TG_eq (x:S43):TG x ↔ (-9223372036854775808 ≤ x.f1.f1∧x.f1.f1 ≤ 9223372036854775807∧x.f1.f2.size ≤ 500)∧TGs x.f3:=by cases x;rw [TG]
mutual
def tgB:S43 → Bool
 | ⟨_,v,_,l⟩ => decide (-9223372036854775808 ≤ v.f1) && decide (v.f1 ≤ 9223372036854775807) && decide (v.f2.size ≤ 500) && tgsB l
def tgsB:List S43 → Bool
 | [] => true
 | x :: l => tgB x && tgsB l
end
mutual
theorem TG_of:∀ x:S43,tgB x=true → TG x
 | ⟨_,v,_,l⟩,h => by
  rw [tgB] at h
  simp only [Bool.and_eq_true,decide_eq_true_eq] at h
  rw [TG]
  exact ⟨⟨h.1.1.1,h.1.1.2,h.1.2⟩,TGs_of l h.2⟩
theorem TGs_of:∀ l:List S43,tgsB l=true → TGs l
 | [],_ => by rw [TGs];trivial
 | x :: l,h => by
  rw [tgsB] at h
  simp only [Bool.and_eq_true] at h
  rw [TGs]
  exact ⟨TG_of x h.1,TGs_of l h.2⟩
end
theorem TGs_mem {x:S43}:∀ {l:List S43},x ∈ l → TGs l → TG x
 | y :: l,h,h2 => by
  rw [TGs] at h2
  rcases List.mem_cons.1 h with rfl | h
  ·exact h2.1
  ·exact TGs_mem h h2.2
theorem dupQ_ge:∀ l:List UInt8,l.length ≤ (dupQ l).length
 | [] => by simp
 | c :: r => by
  have:=dupQ_ge r
  simp only [dupQ]
  split <;> simp <;> omega
theorem lit_text {v:S40} (h0:v.f0 ≠ 0) (h1:v.f0 ≠ 1):lit v=ba (39 :: (dupQ v.f2.data.toList ++ [39])):=by
 unfold lit;rw [if_neg h0,if_neg h1]
theorem lit_size {v:S40} (h0:v.f0 ≠ 0) (h1:v.f0 ≠ 1):v.f2.size + 2 ≤ (lit v).size:=by
 rw [lit_text h0 h1,ba_size]
 have:=dupQ_ge v.f2.data.toList
 rw [len_data] at this
 simp;omega
theorem u64w {x:Int} (h0:0 ≤ x) (h1:x < 18446744073709551616):IntKind.u64.wrap x=x:=by
 simp [IntKind.wrap,IntKind.bits,IntKind.signed]
 omega
theorem one_dig (m:Nat) (hm:m < 10):strOfNums [(48 + ((m:Int) % 256)) % 256]=ba [UInt8.ofNat (48 + m)]:=by
 have e:(48 + ((m:Int) % 256)) % 256=((48 + m:Nat):Int):=by omega
 rw [e]
 show ba [UInt8.ofNat (((48 + m:Nat):Int)).toNat]=_
 rw [Int.toNat_natCast]
theorem pDigits:∀ (j k n:Nat),1 ≤ j → n < 10 ^ j → j ≤ k → j ≤ 100 → n ≤ 9223372036854775808 → parse_digits.f k (n:Int)=some (ba (digA j n))
 | 0,k,n,h,_,_,_,_ => by omega
 | j + 1,k,n,_,h,hk,hj100,hn => by
  obtain ⟨k,rfl⟩:∃ m,k=m + 1:=⟨k - 1,by omega⟩
  rw [parse_digits.f]
  simp only [digA]
  by_cases h10:n < 10
  ·rw [if_pos (by omega),if_pos h10,one_dig n h10]
  ·rw [if_neg (by omega),if_neg h10]
   have hj:1 ≤ j:=by
    rcases Nat.eq_zero_or_pos j with rfl | h1
    ·simp at h;omega
    ·exact h1
   obtain ⟨k,rfl⟩:∃ m,k=m + 1:=⟨k - 1,by omega⟩
   have hq:Int.tdiv (n:Int) 10=((n / 10:Nat):Int):=by rw [Int.tdiv_eq_ediv_of_nonneg (by omega)];omega
   have hr:Int.tmod (n:Int) 10=((n % 10:Nat):Int):=by rw [Int.tmod_eq_emod_of_nonneg (by omega)];omega
   have h9:parse_digits.f (k + 1) ((n % 10:Nat):Int)=some (ba [UInt8.ofNat (48 + n % 10)]):=by
    rw [parse_digits.f,if_pos (by omega),one_dig (n % 10) (by omega)]
   rw [hq,hr,u64w (by omega) (by omega),pDigits j (k + 1) (n / 10) hj (by rw [Nat.pow_succ] at h;omega) (by omega) (by omega) (by omega)]
   simp only [Option.bind_some]
   rw [h9]
   simp only [Option.bind_some]
   rw [if_pos,ba_app]
   rw [ba_size,ba_size]
   have:=Lx.digA_len j (n / 10) hj (by rw [Nat.pow_succ] at h;omega)
   simp
   omega
theorem pow20b {n:Nat} (h:n ≤ 9223372036854775808):n < 10 ^ 20:=by
 have:(10:Nat) ^ 20=100000000000000000000:=rfl
 omega
theorem pLit {v:S40} {k:Nat} (hk:30 ≤ k) (h1:-9223372036854775808 ≤ v.f1) (h2:v.f1 ≤ 9223372036854775807) (hz:(lit v).size ≤ 1000000000):parse_literal.f k v.f0 v.f1 v.f2=some (lit v):=by
 have hs:v.f0 ≠ 0 → v.f0 ≠ 1 → v.f2.size ≤ 1000000000:=fun h0 h1 => by have:=lit_size h0 h1;omega
 obtain ⟨k,rfl⟩:∃ m,k=m + 1:=⟨k - 1,by omega⟩
 unfold parse_literal.f lit
 by_cases c0:v.f0=0
 ·rw [if_pos c0,if_pos c0]
 ·rw [if_neg c0,if_neg c0]
  have T:v.f0 ≠ 1 → parse_literal.j0 (k + 1) true v.f0 v.f1 v.f2=some (ba (39 :: (dupQ v.f2.data.toList ++ [39]))):=fun hn => by
   have hs:=hs c0 hn
   rw [parse_literal.j0,if_pos rfl]
   unfold strings_ReplaceAll.f
   have e1:(⟨#[39]⟩:ByteArray).data.toList=[39]:=rfl
   have e2:(⟨#[39,39]⟩:ByteArray).data.toList=[39,39]:=rfl
   rw [if_pos e1,if_pos e2,if_pos (by omega)]
   simp only [Option.bind_some]
   have hd:=dupQ_le v.f2.data.toList
   rw [len_data] at hd
   have e3:(⟨#[39]⟩:ByteArray)=ba [39]:=rfl
   rw [if_pos (by rw [ba_size];omega),if_pos (by rw [ByteArray.size_append,ba_size,e3,ba_size];simp;omega),e3,ba_app,ba_app]
   simp
  by_cases c2:v.f0=2
  ·rw [if_pos c2,if_neg (by omega),T (by omega)]
  ·rw [if_neg c2]
   by_cases c1:v.f0=1
   ·have:(v.f0 != 1)=false:=bne_eq_false_iff_eq.mpr c1
    rw [if_pos c1,this,parse_literal.j0,if_neg (by simp)]
    by_cases cn:v.f1 < 0
    ·rw [if_pos cn,if_pos cn]
     have e:IntKind.u64.wrap (wrap64 (-v.f1))=((-v.f1).toNat:Int):=by
      by_cases hm:v.f1 = -9223372036854775808
      ·rw [hm];decide +kernel
      ·rw [w64 (by omega) (by omega),u64w (by omega) (by omega)];omega
     rw [e,pDigits 20 k (-v.f1).toNat (by decide) (pow20b (by omega)) (by omega) (by decide) (by omega)]
     simp only [Option.bind_some]
     rw [if_pos]
     rw [ba_size]
     have:=Lx.digA_len 20 (-v.f1).toNat (by decide) (pow20b (by omega))
     omega
    ·rw [if_neg cn,if_neg cn]
     have e:IntKind.u64.wrap v.f1=(v.f1.toNat:Int):=by
      rw [u64w (by omega) (by omega)];omega
     rw [e,pDigits 20 k v.f1.toNat (by decide) (pow20b (by omega)) (by omega) (by decide) (by omega)]
     rfl
   ·have:(v.f0 != 1)=true:=bne_iff_ne.mpr c1
    rw [this,if_neg c1,T c1]
theorem rNumber {n:Int} {k:Nat} (hk:30 ≤ k) (h1:-9223372036854775808 ≤ n) (h2:n ≤ 9223372036854775807):vidimusref17_number.f k n=some (if n < 0 then (⟨#[45]⟩:ByteArray) ++ ba (digA 20 (-n).toNat) else ba (digA 20 n.toNat)):=by
 unfold vidimusref17_number.f
 by_cases cn:n < 0
 ·rw [if_neg (by omega),if_pos cn]
  by_cases hm:n = -9223372036854775808
  ·rw [if_pos hm,hm]
   decide +kernel
  ·rw [if_neg hm,w64 (by omega) (by omega)]
   have e:-n=((-n).toNat:Int):=by omega
   rw [e,refDigits 20 k (-n).toNat (by decide) (Lx.pow20 (by omega)) (by omega) (by decide) (by omega)]
   simp only [Option.bind_some]
   rw [if_pos]
   ·rw [Int.toNat_natCast]
   ·rw [ba_size]
    have:=Lx.digA_len 20 (-n).toNat (by decide) (Lx.pow20 (by omega))
    omega
 ·rw [if_pos (by omega),if_neg cn]
  have e:n=(n.toNat:Int):=by omega
  rw [e,refDigits 20 k n.toNat (by decide) (Lx.pow20 (by omega)) (by omega) (by decide) (by omega)]
  simp only [Option.bind_some,Int.toNat_natCast]
end Go.Proofs.YtcgdncpioafbdaaGreatDoor.Q

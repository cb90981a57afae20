/- Lemmas for the law: Po Pp Pq Pr Pt Pu Pv Num Qlex NumW StrW TokA Tok. -/
import Derived.Test.YtcgdncpioafbdaaGreatDoorRows
import Derived.Test.YtcgdncpioafbdaaGreatDoorTie
import Derived.Test.YtcgdncpioafbdaaGreatDoorCards
import Derived.Test.YtcgdncpioafbdaaGreatDoorS1
import Derived.Test.YtcgdncpioafbdaaGreatDoorS2
import Derived.Test.YtcgdncpioafbdaaGreatDoorS3
import Derived.Test.YtcgdncpioafbdaaGreatDoorS4
import Derived.Defers
import Derived.Recover
import Derived.Laws.Pointers
import Derived.Maps.OwnSet
import Derived.Test.YtcgdncpioafbdaaGreatDoorProg
import Derived.WalkKit
import Derived.WalkSpells
import Derived.LaidEql
import Derived.Stop.Asserts
import Derived.RowKitTokens
import Derived.Outline
import Derived.Lib.ParseIntBCases
import Derived.WalkLawsBesides
set_option linter.unusedVariables false
set_option linter.unusedSimpArgs false
namespace Go.Proofs.YtcgdncpioafbdaaGreatDoor.Q
open Go Go.RowKit Go.Proofs.YtcgdncpioafbdaaGreatDoorW.PrintWords
theorem chooseU_none {k:Nat} {x:S60} {ts:List S32} (h:Ps.choose k x ts=none):((Ps.choose k x ts).map fun p => (((),p.1),p.2))=none:=by rw [h];rfl
theorem chooseU_some {k:Nat} {x y:S60} {ts r:List S32} (h:Ps.choose k x ts=some (y,r)):((Ps.choose k x ts).map fun p => (((),p.1),p.2))=some (((),y),r):=by rw [h];rfl
theorem SQ.gr_gs {w0 w wc wd:World} {g bp rb gs:Nat} {x:S60} {a:Ads} {ts:List S32} (h:SQ w0 w g bp rb gs x a ts wc) (hg:Gs (fun q => q=g ∨ q=gs) wc wd):Gr g w wd:=by
 have h0:=h.o0
 have h1:=h.o1
 have h2:=h.o2
 have h3:=h.o3
 exact ⟨hg.os.trans h.gr.os,hg.tape.trans h.gr.tape,hg.output.trans h.gr.output,Nat.le_trans h.gr.size hg.size,fun i hi hn => (hg.block i (Nat.lt_of_lt_of_le hi h.gr.size) (by omega)).trans (h.gr.block i hi hn)⟩
theorem SQ.start {w0 w w1:World} {g:Nat} {r:List S32} (hlt:g < w.heap.size) (hg:Gr g (((w.alloc (.cells #[.pointer (some ⟨g,0,none⟩)] 229 (0,0))).alloc (.cells (celA z60 {}) 60 (0,0))).alloc (.cells (celA Ps.st0 {}) 60 (0,0))) w1) (hp:PS w0 g r w1):SQ w0 w g w.heap.size (w.heap.size + 1) (w.heap.size + 1 + 1) Ps.st0 {} r w1:=by
 have e1:(w.alloc (.cells #[.pointer (some ⟨g,0,none⟩)] 229 (0,0))).heap.size=w.heap.size + 1:=by simp
 have e2:((w.alloc (.cells #[.pointer (some ⟨g,0,none⟩)] 229 (0,0))).alloc (.cells (celA z60 {}) 60 (0,0))).heap.size=w.heap.size + 1 + 1:=by simp
 refine ⟨hp,hg.blk (new_blk _ e2) (by omega),⟨Nat.le_refl _,Kd.F_nil _ _ _,Nat.le_refl _,Kd.F_nil _ _ _,Nat.le_refl _,Kd.F_nil _ _ _,Nat.le_refl _,Kd.F_nil _ _ _,Nat.le_refl _,Kd.F_nil _ _ _⟩,hg.blk (blk_alloc (blk_alloc (new_blk _ rfl) _) _) (by omega),hg.blk (blk_alloc (new_blk _ e1) _) (by omega),((((Gr.refl g w).alloc _).alloc _).alloc _).trans hg,hlt,Nat.le_refl _,by omega,by omega⟩
set_option maxHeartbeats 8000000 in
set_option maxRecDepth 100000 in
theorem stmt_out {w0 w:World} {g:Nat} {ts:List S32} (h:PS w0 g ts w) {k:Nat} (hk:2 * ts.length + 1 ≤ k) (hn:ts.length ≤ 4001):Calls Tryz.prog 179 #[.pointer (some ⟨g,0,none⟩)] w (OutS g w (Ps.stmt k ts)):=by
 have HP:=Aside0.mk h
 have hlt:=h.lt
 have hlow:=h.low
 have hfd:∀ (t:S32) (w:World),(Instr.field 32 (.agg #[.int .i64 t.f0,.string t.f1,.int .i64 t.f2]) 1).run Tryz.prog w = .ok (.string t.f1) w:=fun _ _ => by kernel_rfl
 clear h
 cases hx:Ps.nx ts with
 | none =>
  have HN:=Aside0.mk hx
  have HM:=Aside0.mk (show Ps.stmt k ts=none by simp only [Ps.stmt,hx])
  clear hx
  go_enter Tryz.func179,Tryz.ntmps179
  go_wp2_with (first | (go_at_call 258;refine (next_out (((HP.out.alloc _).alloc _).alloc _)).mono ?_;intro e7 w1 ho;obtain ⟨hg,rfl⟩:=ho.none HN.out;have HGN:=Aside0.mk (((((Gr.refl g w).alloc _).alloc _).alloc _).trans hg);clear hg ho))
  exact ⟨rfl,OutS.of_none HM.out HGN.out⟩
 | some p =>
  obtain ⟨t,r⟩:=p
  have HN:=Aside0.mk hx
  have HL:=Aside0.mk (show r.length ≤ ts.length by have:=(Ps.nx_len hx).1;omega)
  clear hx
  go_enter Tryz.func179,Tryz.ntmps179
  go_upto_block 0 with (first | (go_at_call 258;refine (next_out (((HP.out.alloc _).alloc _).alloc _)).mono ?_;intro e7 w1 ho;obtain ⟨hg,v,rfl,rfl,hp⟩:=ho.some HN.out;have HG1:=Aside0.mk hg;have HQ1:=Aside0.mk hp;clear hg ho hp))
  generalize hgs:w.heap.size + 1 + 1=gs
  generalize hrb:w.heap.size + 1=rb
  generalize hbp:w.heap.size=bp
  have SQ1:Aside0 (SQ w0 w g bp rb gs Ps.st0 {} r w1):=by
   subst hbp hrb hgs
   exact ⟨SQ.start hlt HG1.out HQ1.out⟩
  clear HG1 HQ1
  have hgt1:=SQ1.out.lt
  have hb1:=SQ1.out.cell
  have ho1:=SQ1.out.o1
  have ho2:=SQ1.out.o2
  have ho3:=SQ1.out.o3
  obtain ⟨y1_0,hy1_0⟩:=SQ1.out.has 0 (by omega)
  have hz1_0:=SQ1.out.frz 0
  clear hgs hrb hbp
  go_cut [] (fun wc => ∃ (x:S60) (a:Ads) (tq:List S32),Aside0 (Ps.stmt k ts=Ps.fin x tq)∧Aside0 (SQ w0 w g bp rb gs x a tq wc))
  case first =>
   obtain ⟨R,hR⟩:∃ R,Ps.stmt k ts=R:=⟨_,rfl⟩
   have hm:=hR
   simp only [Ps.stmt] at hm
   rw [HN.out] at hm
   simp only at hm
   rw [← hR] at hm
   replace hm:=hm.symm
   clear hR
   have HNX0:=HN
   clear HN
   by_cases m0:t.f1.toList=Ps.sCreate.toList
   ·rw [if_pos m0] at hm
    rw [wCreate] at m0
    have q0:(t.f1.toList == [99,114,101,97,116,101])=true:=beq_iff_eq.mpr m0
    clear m0
    simp only [Ps.head] at hm
    cases hu:Ps.ms [Ps.sTable] r with
    | none =>
     rw [hu] at hm
     have HU:=Aside0.mk hu
     clear hu
     have HM:=Aside0.mk hm
     clear hm
     go_wp2_with (first | (go_at_call 259;refine (must1 SQ1.out.ps (by simp) Ps.sTable 1).mono ?_;intro e7 w2 ho;obtain ⟨hg,rfl⟩:=ho.none (msU_none HU.out);have HGN:=Aside0.mk (SQ1.out.gr.trans hg);clear hg ho))
     exact ⟨rfl,OutS.of_none HM.out HGN.out⟩
    | some r0 =>
     rw [hu] at hm
     simp only at hm
     have HU:=Aside0.mk hu
     clear hu
     cases hnm:Ps.nm r0 with
     | none =>
      rw [hnm] at hm
      have HN:=Aside0.mk hnm
      clear hnm
      have HM:=Aside0.mk hm
      clear hm
      go_wp2_with (first | (go_at_call 259;refine (must1 SQ1.out.ps (by simp) Ps.sTable 1).mono ?_;intro e7 w2 ho;obtain ⟨hg,v,rfl,rfl,hp⟩:=ho.some (msU_some HU.out);have SQ2:=Aside0.mk (SQ1.out.go hg hp);have hgt2:gs < w2.heap.size:=SQ2.out.lt;have hb2:=SQ2.out.cell;clear hg ho hp) | (go_at_call 260;refine (name_out SQ2.out.ps).mono ?_;intro e7 w3 ho;obtain ⟨hg,rfl⟩:=ho.none HN.out;have HGN:=Aside0.mk (SQ2.out.gr.trans hg);clear hg ho))
      exact ⟨rfl,OutS.of_none HM.out HGN.out⟩
     | some p =>
      obtain ⟨n,r1⟩:=p
      rw [hnm] at hm
      simp only at hm
      have HN:=Aside0.mk hnm
      clear hnm
      have HL1:=Aside0.mk (show r1.length ≤ ts.length by have:=Ps.nm_len HN.out;have:=Ps.ms_len HU.out;have:=HL.out;omega)
      cases hv:Ps.ms [Ps.sOpen] r1 with
      | none =>
       rw [hv] at hm
       have HV:=Aside0.mk hv
       clear hv
       have HM:=Aside0.mk hm
       clear hm
       go_wp2_with (first | (go_at_call 259;refine (must1 SQ1.out.ps (by simp) Ps.sTable 1).mono ?_;intro e7 w2 ho;obtain ⟨hg,v,rfl,rfl,hp⟩:=ho.some (msU_some HU.out);have SQ2:=Aside0.mk (SQ1.out.go hg hp);have hgt2:gs < w2.heap.size:=SQ2.out.lt;have hb2:=SQ2.out.cell;clear hg ho hp) | (go_at_call 260;refine (name_out SQ2.out.ps).mono ?_;intro e7 w3 ho;obtain ⟨hg,v,rfl,rfl,hp⟩:=ho.some HN.out;have SQ3:=Aside0.mk (SQ2.out.go hg hp);have hgt3:gs < w3.heap.size:=SQ3.out.lt;have hb3:=SQ3.out.cell;obtain ⟨y3_0,hy3_0⟩:=SQ3.out.has 0 (by omega);have hz3_0:=SQ3.out.frz 0;obtain ⟨y3_1,hy3_1⟩:=SQ3.out.has 1 (by omega);have hz3_1:=SQ3.out.frz 1;clear hg ho hp) | (go_at_call 259;refine (must1 ((SQ3.out.put0 1).put1 n).ps (by simp) Ps.sOpen 1).mono ?_;intro e7 w4 ho;obtain ⟨hg,rfl⟩:=ho.none (msU_none HV.out);have HGN:=Aside0.mk (((SQ3.out.put0 1).put1 n).gr.trans hg);clear hg ho))
       exact ⟨rfl,OutS.of_none HM.out HGN.out⟩
      | some r2 =>
       rw [hv] at hm
       simp only at hm
       have HV:=Aside0.mk hv
       clear hv
       cases hl:Ps.list Ps.column k ⟨#[]⟩ r2 with
       | none =>
        rw [hl] at hm
        have HR:=Aside0.mk hl
        clear hl
        have HM:=Aside0.mk hm
        clear hm
        go_wp2_with (first | (go_at_call 259;refine (must1 SQ1.out.ps (by simp) Ps.sTable 1).mono ?_;intro e7 w2 ho;obtain ⟨hg,v,rfl,rfl,hp⟩:=ho.some (msU_some HU.out);have SQ2:=Aside0.mk (SQ1.out.go hg hp);have hgt2:gs < w2.heap.size:=SQ2.out.lt;have hb2:=SQ2.out.cell;clear hg ho hp) | (go_at_call 260;refine (name_out SQ2.out.ps).mono ?_;intro e7 w3 ho;obtain ⟨hg,v,rfl,rfl,hp⟩:=ho.some HN.out;have SQ3:=Aside0.mk (SQ2.out.go hg hp);have hgt3:gs < w3.heap.size:=SQ3.out.lt;have hb3:=SQ3.out.cell;obtain ⟨y3_0,hy3_0⟩:=SQ3.out.has 0 (by omega);have hz3_0:=SQ3.out.frz 0;obtain ⟨y3_1,hy3_1⟩:=SQ3.out.has 1 (by omega);have hz3_1:=SQ3.out.frz 1;clear hg ho hp) | (go_at_call 259;refine (must1 ((SQ3.out.put0 1).put1 n).ps (by simp) Ps.sOpen 1).mono ?_;intro e7 w4 ho;obtain ⟨hg,v,rfl,rfl,hp⟩:=ho.some (msU_some HV.out);have SQ4:=Aside0.mk (((SQ3.out.put0 1).put1 n).go hg hp);have hgt4:gs < w4.heap.size:=SQ4.out.lt;have hb4:=SQ4.out.cell;clear hg ho hp) | (go_at_call 261;refine (cols_out (SQ4.out.col (n:=n) (key:=⟨#[]⟩) rfl) (k:=k) (by have:=HL1.out;have:=Ps.ms_len HV.out;omega) (by have:=HL1.out;have:=Ps.ms_len HV.out;omega)).mono ?_;intro e7 w5 ho;obtain ⟨hg,rfl⟩:=ho.none HR.out;have HGN:=Aside0.mk (SQ4.out.gr_gs hg);clear hg ho))
        exact ⟨rfl,OutS.of_none HM.out HGN.out⟩
       | some p =>
        obtain ⟨⟨l,key⟩,r3⟩:=p
        rw [hl] at hm
        simp only at hm
        have HR:=Aside0.mk hl
        clear hl
        cases hx:Ps.ms [Ps.sClose] r3 with
        | none =>
         rw [hx] at hm
         have HX:=Aside0.mk hx
         clear hx
         have HM:=Aside0.mk hm
         clear hm
         go_wp2_with (first | (go_at_call 259;refine (must1 SQ1.out.ps (by simp) Ps.sTable 1).mono ?_;intro e7 w2 ho;obtain ⟨hg,v,rfl,rfl,hp⟩:=ho.some (msU_some HU.out);have SQ2:=Aside0.mk (SQ1.out.go hg hp);have hgt2:gs < w2.heap.size:=SQ2.out.lt;have hb2:=SQ2.out.cell;clear hg ho hp) | (go_at_call 260;refine (name_out SQ2.out.ps).mono ?_;intro e7 w3 ho;obtain ⟨hg,v,rfl,rfl,hp⟩:=ho.some HN.out;have SQ3:=Aside0.mk (SQ2.out.go hg hp);have hgt3:gs < w3.heap.size:=SQ3.out.lt;have hb3:=SQ3.out.cell;obtain ⟨y3_0,hy3_0⟩:=SQ3.out.has 0 (by omega);have hz3_0:=SQ3.out.frz 0;obtain ⟨y3_1,hy3_1⟩:=SQ3.out.has 1 (by omega);have hz3_1:=SQ3.out.frz 1;clear hg ho hp) | (go_at_call 259;refine (must1 ((SQ3.out.put0 1).put1 n).ps (by simp) Ps.sOpen 1).mono ?_;intro e7 w4 ho;obtain ⟨hg,v,rfl,rfl,hp⟩:=ho.some (msU_some HV.out);have SQ4:=Aside0.mk (((SQ3.out.put0 1).put1 n).go hg hp);have hgt4:gs < w4.heap.size:=SQ4.out.lt;have hb4:=SQ4.out.cell;clear hg ho hp) | (go_at_call 261;refine (cols_out (SQ4.out.col (n:=n) (key:=⟨#[]⟩) rfl) (k:=k) (by have:=HL1.out;have:=Ps.ms_len HV.out;omega) (by have:=HL1.out;have:=Ps.ms_len HV.out;omega)).mono ?_;intro e7 w5 ho;obtain ⟨hg,v,rfl,hv,hi⟩:=ho.some HR.out;obtain ⟨Ax,nx,rfl,hnx,hfx⟩:=hv;have SQ5:=Aside0.mk (SQ4.out.of_col hg hi);have hgt5:gs < w5.heap.size:=SQ5.out.lt;have hb5:=SQ5.out.cell;obtain ⟨y5_2,hy5_2⟩:=SQ5.out.has 2 (by omega);have hz5_2:=SQ5.out.frz 2;have HNX:=Aside0.mk hnx;have HFX:=Aside0.mk (Kd.F_mono hfx (ok':=fun q => gs < q) (fun q hq => Nat.lt_of_lt_of_le SQ4.out.lt hq));clear hg ho hi hnx hfx) | (go_at_call 259;refine (must1 (SQ5.out.put2 HNX.out HFX.out).ps (by simp) Ps.sClose 1).mono ?_;intro e7 w6 ho;obtain ⟨hg,rfl⟩:=ho.none (msU_none HX.out);have HGN:=Aside0.mk ((SQ5.out.put2 HNX.out HFX.out).gr.trans hg);clear hg ho))
         exact ⟨rfl,OutS.of_none HM.out HGN.out⟩
        | some r4 =>
         rw [hx] at hm
         simp only at hm
         have HX:=Aside0.mk hx
         clear hx
         by_cases ck:key.toList=[]
         ·rw [if_pos ck] at hm
          have bk:(key.toList == [])=true:=beq_iff_eq.mpr ck
          have HM:=Aside0.mk hm
          clear hm
          go_wp2_with (first | (go_at_call 259;refine (must1 SQ1.out.ps (by simp) Ps.sTable 1).mono ?_;intro e7 w2 ho;obtain ⟨hg,v,rfl,rfl,hp⟩:=ho.some (msU_some HU.out);have SQ2:=Aside0.mk (SQ1.out.go hg hp);have hgt2:gs < w2.heap.size:=SQ2.out.lt;have hb2:=SQ2.out.cell;clear hg ho hp) | (go_at_call 260;refine (name_out SQ2.out.ps).mono ?_;intro e7 w3 ho;obtain ⟨hg,v,rfl,rfl,hp⟩:=ho.some HN.out;have SQ3:=Aside0.mk (SQ2.out.go hg hp);have hgt3:gs < w3.heap.size:=SQ3.out.lt;have hb3:=SQ3.out.cell;obtain ⟨y3_0,hy3_0⟩:=SQ3.out.has 0 (by omega);have hz3_0:=SQ3.out.frz 0;obtain ⟨y3_1,hy3_1⟩:=SQ3.out.has 1 (by omega);have hz3_1:=SQ3.out.frz 1;clear hg ho hp) | (go_at_call 259;refine (must1 ((SQ3.out.put0 1).put1 n).ps (by simp) Ps.sOpen 1).mono ?_;intro e7 w4 ho;obtain ⟨hg,v,rfl,rfl,hp⟩:=ho.some (msU_some HV.out);have SQ4:=Aside0.mk (((SQ3.out.put0 1).put1 n).go hg hp);have hgt4:gs < w4.heap.size:=SQ4.out.lt;have hb4:=SQ4.out.cell;clear hg ho hp) | (go_at_call 261;refine (cols_out (SQ4.out.col (n:=n) (key:=⟨#[]⟩) rfl) (k:=k) (by have:=HL1.out;have:=Ps.ms_len HV.out;omega) (by have:=HL1.out;have:=Ps.ms_len HV.out;omega)).mono ?_;intro e7 w5 ho;obtain ⟨hg,v,rfl,hv,hi⟩:=ho.some HR.out;obtain ⟨Ax,nx,rfl,hnx,hfx⟩:=hv;have SQ5:=Aside0.mk (SQ4.out.of_col hg hi);have hgt5:gs < w5.heap.size:=SQ5.out.lt;have hb5:=SQ5.out.cell;obtain ⟨y5_2,hy5_2⟩:=SQ5.out.has 2 (by omega);have hz5_2:=SQ5.out.frz 2;have HNX:=Aside0.mk hnx;have HFX:=Aside0.mk (Kd.F_mono hfx (ok':=fun q => gs < q) (fun q hq => Nat.lt_of_lt_of_le SQ4.out.lt hq));clear hg ho hi hnx hfx) | (go_at_call 259;refine (must1 (SQ5.out.put2 HNX.out HFX.out).ps (by simp) Ps.sClose 1).mono ?_;intro e7 w6 ho;obtain ⟨hg,v,rfl,rfl,hp⟩:=ho.some (msU_some HX.out);have SQ6:=Aside0.mk ((SQ5.out.put2 HNX.out HFX.out).go hg hp);have hgt6:gs < w6.heap.size:=SQ6.out.lt;have hb6:=SQ6.out.cell;clear hg ho hp;have hk3:w6.cell? ⟨gs,3,none⟩=some (.string key):=(blk_cell SQ6.out.st 3).trans rfl) | (go_at_call 264;refine (fail_calls g _).mono ?_;rintro e8 w8 ⟨rfl,rfl⟩))
          exact ⟨rfl,OutS.of_none HM.out SQ6.out.gr⟩
         ·rw [if_neg ck] at hm
          have bk:(key.toList == [])=false:=beq_eq_false_iff_ne.mpr ck
          have HM:=Aside0.mk hm
          clear hm
          go_wp2_with (first | (go_at_call 259;refine (must1 SQ1.out.ps (by simp) Ps.sTable 1).mono ?_;intro e7 w2 ho;obtain ⟨hg,v,rfl,rfl,hp⟩:=ho.some (msU_some HU.out);have SQ2:=Aside0.mk (SQ1.out.go hg hp);have hgt2:gs < w2.heap.size:=SQ2.out.lt;have hb2:=SQ2.out.cell;clear hg ho hp) | (go_at_call 260;refine (name_out SQ2.out.ps).mono ?_;intro e7 w3 ho;obtain ⟨hg,v,rfl,rfl,hp⟩:=ho.some HN.out;have SQ3:=Aside0.mk (SQ2.out.go hg hp);have hgt3:gs < w3.heap.size:=SQ3.out.lt;have hb3:=SQ3.out.cell;obtain ⟨y3_0,hy3_0⟩:=SQ3.out.has 0 (by omega);have hz3_0:=SQ3.out.frz 0;obtain ⟨y3_1,hy3_1⟩:=SQ3.out.has 1 (by omega);have hz3_1:=SQ3.out.frz 1;clear hg ho hp) | (go_at_call 259;refine (must1 ((SQ3.out.put0 1).put1 n).ps (by simp) Ps.sOpen 1).mono ?_;intro e7 w4 ho;obtain ⟨hg,v,rfl,rfl,hp⟩:=ho.some (msU_some HV.out);have SQ4:=Aside0.mk (((SQ3.out.put0 1).put1 n).go hg hp);have hgt4:gs < w4.heap.size:=SQ4.out.lt;have hb4:=SQ4.out.cell;clear hg ho hp) | (go_at_call 261;refine (cols_out (SQ4.out.col (n:=n) (key:=⟨#[]⟩) rfl) (k:=k) (by have:=HL1.out;have:=Ps.ms_len HV.out;omega) (by have:=HL1.out;have:=Ps.ms_len HV.out;omega)).mono ?_;intro e7 w5 ho;obtain ⟨hg,v,rfl,hv,hi⟩:=ho.some HR.out;obtain ⟨Ax,nx,rfl,hnx,hfx⟩:=hv;have SQ5:=Aside0.mk (SQ4.out.of_col hg hi);have hgt5:gs < w5.heap.size:=SQ5.out.lt;have hb5:=SQ5.out.cell;obtain ⟨y5_2,hy5_2⟩:=SQ5.out.has 2 (by omega);have hz5_2:=SQ5.out.frz 2;have HNX:=Aside0.mk hnx;have HFX:=Aside0.mk (Kd.F_mono hfx (ok':=fun q => gs < q) (fun q hq => Nat.lt_of_lt_of_le SQ4.out.lt hq));clear hg ho hi hnx hfx) | (go_at_call 259;refine (must1 (SQ5.out.put2 HNX.out HFX.out).ps (by simp) Ps.sClose 1).mono ?_;intro e7 w6 ho;obtain ⟨hg,v,rfl,rfl,hp⟩:=ho.some (msU_some HX.out);have SQ6:=Aside0.mk ((SQ5.out.put2 HNX.out HFX.out).go hg hp);have hgt6:gs < w6.heap.size:=SQ6.out.lt;have hb6:=SQ6.out.cell;clear hg ho hp;have hk3:w6.cell? ⟨gs,3,none⟩=some (.string key):=(blk_cell SQ6.out.st 3).trans rfl))
          go_meet
          case rel => exact ⟨_,_,_,HM,⟨SQ6.out⟩⟩
   ·rw [if_neg m0] at hm
    rw [wCreate] at m0
    have q0:(t.f1.toList == [99,114,101,97,116,101])=false:=beq_eq_false_iff_ne.mpr m0
    clear m0
    by_cases m1:t.f1.toList=Ps.sDrop.toList
    ·rw [if_pos m1] at hm
     rw [wDrop] at m1
     have q1:(t.f1.toList == [100,114,111,112])=true:=beq_iff_eq.mpr m1
     clear m1
     simp only [Ps.head] at hm
     cases hu:Ps.ms [Ps.sTable] r with
     | none =>
      rw [hu] at hm
      have HU:=Aside0.mk hu
      clear hu
      have HM:=Aside0.mk hm
      clear hm
      go_wp2_with (first | (go_at_call 259;refine (must1 SQ1.out.ps (by simp) Ps.sTable 1).mono ?_;intro e7 w2 ho;obtain ⟨hg,rfl⟩:=ho.none (msU_none HU.out);have HGN:=Aside0.mk (SQ1.out.gr.trans hg);clear hg ho))
      exact ⟨rfl,OutS.of_none HM.out HGN.out⟩
     | some r0 =>
      rw [hu] at hm
      simp only at hm
      have HU:=Aside0.mk hu
      clear hu
      cases hnm:Ps.nm r0 with
      | none =>
       rw [hnm] at hm
       have HN:=Aside0.mk hnm
       clear hnm
       have HM:=Aside0.mk hm
       clear hm
       go_wp2_with (first | (go_at_call 259;refine (must1 SQ1.out.ps (by simp) Ps.sTable 1).mono ?_;intro e7 w2 ho;obtain ⟨hg,v,rfl,rfl,hp⟩:=ho.some (msU_some HU.out);have SQ2:=Aside0.mk (SQ1.out.go hg hp);have hgt2:gs < w2.heap.size:=SQ2.out.lt;have hb2:=SQ2.out.cell;clear hg ho hp) | (go_at_call 260;refine (name_out SQ2.out.ps).mono ?_;intro e7 w3 ho;obtain ⟨hg,rfl⟩:=ho.none HN.out;have HGN:=Aside0.mk (SQ2.out.gr.trans hg);clear hg ho))
       exact ⟨rfl,OutS.of_none HM.out HGN.out⟩
      | some p =>
       obtain ⟨n,r1⟩:=p
       rw [hnm] at hm
       simp only at hm
       have HN:=Aside0.mk hnm
       clear hnm
       have HL1:=Aside0.mk (show r1.length ≤ ts.length by have:=Ps.nm_len HN.out;have:=Ps.ms_len HU.out;have:=HL.out;omega)
       have HM:=Aside0.mk hm
       clear hm
       go_wp2_with (first | (go_at_call 259;refine (must1 SQ1.out.ps (by simp) Ps.sTable 1).mono ?_;intro e7 w2 ho;obtain ⟨hg,v,rfl,rfl,hp⟩:=ho.some (msU_some HU.out);have SQ2:=Aside0.mk (SQ1.out.go hg hp);have hgt2:gs < w2.heap.size:=SQ2.out.lt;have hb2:=SQ2.out.cell;clear hg ho hp) | (go_at_call 260;refine (name_out SQ2.out.ps).mono ?_;intro e7 w3 ho;obtain ⟨hg,v,rfl,rfl,hp⟩:=ho.some HN.out;have SQ3:=Aside0.mk (SQ2.out.go hg hp);have hgt3:gs < w3.heap.size:=SQ3.out.lt;have hb3:=SQ3.out.cell;obtain ⟨y3_0,hy3_0⟩:=SQ3.out.has 0 (by omega);have hz3_0:=SQ3.out.frz 0;obtain ⟨y3_1,hy3_1⟩:=SQ3.out.has 1 (by omega);have hz3_1:=SQ3.out.frz 1;clear hg ho hp))
       go_meet
       case rel => exact ⟨_,_,_,HM,⟨(SQ3.out.put0 2).put1 n⟩⟩
    ·rw [if_neg m1] at hm
     rw [wDrop] at m1
     have q1:(t.f1.toList == [100,114,111,112])=false:=beq_eq_false_iff_ne.mpr m1
     clear m1
     by_cases m2:t.f1.toList=Ps.sInsert.toList
     ·rw [if_pos m2] at hm
      rw [wInsert] at m2
      have q2:(t.f1.toList == [105,110,115,101,114,116])=true:=beq_iff_eq.mpr m2
      clear m2
      simp only [Ps.head] at hm
      cases hu:Ps.ms [Ps.sInto] r with
      | none =>
       rw [hu] at hm
       have HU:=Aside0.mk hu
       clear hu
       have HM:=Aside0.mk hm
       clear hm
       go_wp2_with (first | (go_at_call 259;refine (must1 SQ1.out.ps (by simp) Ps.sInto 1).mono ?_;intro e7 w2 ho;obtain ⟨hg,rfl⟩:=ho.none (msU_none HU.out);have HGN:=Aside0.mk (SQ1.out.gr.trans hg);clear hg ho))
       exact ⟨rfl,OutS.of_none HM.out HGN.out⟩
      | some r0 =>
       rw [hu] at hm
       simp only at hm
       have HU:=Aside0.mk hu
       clear hu
       cases hnm:Ps.nm r0 with
       | none =>
        rw [hnm] at hm
        have HN:=Aside0.mk hnm
        clear hnm
        have HM:=Aside0.mk hm
        clear hm
        go_wp2_with (first | (go_at_call 259;refine (must1 SQ1.out.ps (by simp) Ps.sInto 1).mono ?_;intro e7 w2 ho;obtain ⟨hg,v,rfl,rfl,hp⟩:=ho.some (msU_some HU.out);have SQ2:=Aside0.mk (SQ1.out.go hg hp);have hgt2:gs < w2.heap.size:=SQ2.out.lt;have hb2:=SQ2.out.cell;clear hg ho hp) | (go_at_call 260;refine (name_out SQ2.out.ps).mono ?_;intro e7 w3 ho;obtain ⟨hg,rfl⟩:=ho.none HN.out;have HGN:=Aside0.mk (SQ2.out.gr.trans hg);clear hg ho))
        exact ⟨rfl,OutS.of_none HM.out HGN.out⟩
       | some p =>
        obtain ⟨n,r1⟩:=p
        rw [hnm] at hm
        simp only at hm
        have HN:=Aside0.mk hnm
        clear hnm
        have HL1:=Aside0.mk (show r1.length ≤ ts.length by have:=Ps.nm_len HN.out;have:=Ps.ms_len HU.out;have:=HL.out;omega)
        cases hv:Ps.ms [Ps.sValues] r1 with
        | none =>
         rw [hv] at hm
         have HV:=Aside0.mk hv
         clear hv
         have HM:=Aside0.mk hm
         clear hm
         go_wp2_with (first | (go_at_call 259;refine (must1 SQ1.out.ps (by simp) Ps.sInto 1).mono ?_;intro e7 w2 ho;obtain ⟨hg,v,rfl,rfl,hp⟩:=ho.some (msU_some HU.out);have SQ2:=Aside0.mk (SQ1.out.go hg hp);have hgt2:gs < w2.heap.size:=SQ2.out.lt;have hb2:=SQ2.out.cell;clear hg ho hp) | (go_at_call 260;refine (name_out SQ2.out.ps).mono ?_;intro e7 w3 ho;obtain ⟨hg,v,rfl,rfl,hp⟩:=ho.some HN.out;have SQ3:=Aside0.mk (SQ2.out.go hg hp);have hgt3:gs < w3.heap.size:=SQ3.out.lt;have hb3:=SQ3.out.cell;obtain ⟨y3_0,hy3_0⟩:=SQ3.out.has 0 (by omega);have hz3_0:=SQ3.out.frz 0;obtain ⟨y3_1,hy3_1⟩:=SQ3.out.has 1 (by omega);have hz3_1:=SQ3.out.frz 1;clear hg ho hp) | (go_at_call 259;refine (must1 ((SQ3.out.put0 3).put1 n).ps (by simp) Ps.sValues 1).mono ?_;intro e7 w4 ho;obtain ⟨hg,rfl⟩:=ho.none (msU_none HV.out);have HGN:=Aside0.mk (((SQ3.out.put0 3).put1 n).gr.trans hg);clear hg ho))
         exact ⟨rfl,OutS.of_none HM.out HGN.out⟩
        | some r2 =>
         rw [hv] at hm
         simp only at hm
         have HV:=Aside0.mk hv
         clear hv
         cases hl:Ps.list (Ps.rowU k) k () r2 with
         | none =>
          rw [hl] at hm
          have HR:=Aside0.mk hl
          clear hl
          have HM:=Aside0.mk hm
          clear hm
          go_wp2_with (first | (go_at_call 259;refine (must1 SQ1.out.ps (by simp) Ps.sInto 1).mono ?_;intro e7 w2 ho;obtain ⟨hg,v,rfl,rfl,hp⟩:=ho.some (msU_some HU.out);have SQ2:=Aside0.mk (SQ1.out.go hg hp);have hgt2:gs < w2.heap.size:=SQ2.out.lt;have hb2:=SQ2.out.cell;clear hg ho hp) | (go_at_call 260;refine (name_out SQ2.out.ps).mono ?_;intro e7 w3 ho;obtain ⟨hg,v,rfl,rfl,hp⟩:=ho.some HN.out;have SQ3:=Aside0.mk (SQ2.out.go hg hp);have hgt3:gs < w3.heap.size:=SQ3.out.lt;have hb3:=SQ3.out.cell;obtain ⟨y3_0,hy3_0⟩:=SQ3.out.has 0 (by omega);have hz3_0:=SQ3.out.frz 0;obtain ⟨y3_1,hy3_1⟩:=SQ3.out.has 1 (by omega);have hz3_1:=SQ3.out.frz 1;clear hg ho hp) | (go_at_call 259;refine (must1 ((SQ3.out.put0 3).put1 n).ps (by simp) Ps.sValues 1).mono ?_;intro e7 w4 ho;obtain ⟨hg,v,rfl,rfl,hp⟩:=ho.some (msU_some HV.out);have SQ4:=Aside0.mk (((SQ3.out.put0 3).put1 n).go hg hp);have hgt4:gs < w4.heap.size:=SQ4.out.lt;have hb4:=SQ4.out.cell;clear hg ho hp) | (go_at_call 265;refine (rows_out SQ4.out.ps (k:=k) (by have:=HL1.out;have:=Ps.ms_len HV.out;omega) (by have:=HL1.out;have:=Ps.ms_len HV.out;omega)).mono ?_;intro e7 w5 ho;obtain ⟨hg,rfl⟩:=ho.none (listU_none HR.out);have HGN:=Aside0.mk (SQ4.out.gr.trans hg);clear hg ho))
          exact ⟨rfl,OutS.of_none HM.out HGN.out⟩
         | some p =>
          obtain ⟨⟨l,u⟩,r3⟩:=p
          rw [hl] at hm
          simp only at hm
          have HR:=Aside0.mk hl
          clear hl
          have HM:=Aside0.mk hm
          clear hm
          go_wp2_with (first | (go_at_call 259;refine (must1 SQ1.out.ps (by simp) Ps.sInto 1).mono ?_;intro e7 w2 ho;obtain ⟨hg,v,rfl,rfl,hp⟩:=ho.some (msU_some HU.out);have SQ2:=Aside0.mk (SQ1.out.go hg hp);have hgt2:gs < w2.heap.size:=SQ2.out.lt;have hb2:=SQ2.out.cell;clear hg ho hp) | (go_at_call 260;refine (name_out SQ2.out.ps).mono ?_;intro e7 w3 ho;obtain ⟨hg,v,rfl,rfl,hp⟩:=ho.some HN.out;have SQ3:=Aside0.mk (SQ2.out.go hg hp);have hgt3:gs < w3.heap.size:=SQ3.out.lt;have hb3:=SQ3.out.cell;obtain ⟨y3_0,hy3_0⟩:=SQ3.out.has 0 (by omega);have hz3_0:=SQ3.out.frz 0;obtain ⟨y3_1,hy3_1⟩:=SQ3.out.has 1 (by omega);have hz3_1:=SQ3.out.frz 1;clear hg ho hp) | (go_at_call 259;refine (must1 ((SQ3.out.put0 3).put1 n).ps (by simp) Ps.sValues 1).mono ?_;intro e7 w4 ho;obtain ⟨hg,v,rfl,rfl,hp⟩:=ho.some (msU_some HV.out);have SQ4:=Aside0.mk (((SQ3.out.put0 3).put1 n).go hg hp);have hgt4:gs < w4.heap.size:=SQ4.out.lt;have hb4:=SQ4.out.cell;clear hg ho hp) | (go_at_call 265;refine (rows_out SQ4.out.ps (k:=k) (by have:=HL1.out;have:=Ps.ms_len HV.out;omega) (by have:=HL1.out;have:=Ps.ms_len HV.out;omega)).mono ?_;intro e7 w5 ho;obtain ⟨hg,v,rfl,hv,hp⟩:=ho.some (listU_some HR.out);obtain ⟨Ax,nx,rfl,hnx,hfx⟩:=hv;have SQ5:=Aside0.mk (SQ4.out.go hg hp);have hgt5:gs < w5.heap.size:=SQ5.out.lt;have hb5:=SQ5.out.cell;obtain ⟨y5_4,hy5_4⟩:=SQ5.out.has 4 (by omega);have hz5_4:=SQ5.out.frz 4;have HNX:=Aside0.mk hnx;have HFX:=Aside0.mk (Kd.F_mono hfx (ok':=fun q => gs < q) (fun q hq => Nat.lt_of_lt_of_le SQ4.out.lt hq));clear hg ho hp hnx hfx))
          go_meet
          case rel => exact ⟨_,_,_,HM,⟨SQ5.out.put4 HNX.out HFX.out⟩⟩
     ·rw [if_neg m2] at hm
      rw [wInsert] at m2
      have q2:(t.f1.toList == [105,110,115,101,114,116])=false:=beq_eq_false_iff_ne.mpr m2
      clear m2
      by_cases m3:t.f1.toList=Ps.sSelect.toList
      ·rw [if_pos m3] at hm
       rw [wSelect] at m3
       have q3:(t.f1.toList == [115,101,108,101,99,116])=true:=beq_iff_eq.mpr m3
       clear m3
       cases hc:Ps.choose k { Ps.st0 with f0:=4 } r with
       | none =>
        rw [hc] at hm
        have HC:=Aside0.mk hc
        clear hc
        have HM:=Aside0.mk hm
        clear hm
        go_wp2_with (first | (go_at_call 267;refine (choose_out (SQ1.out.put0 4).sb (k:=k) (by have:=HL.out;omega) (by have:=HL.out;omega)).mono ?_;intro e7 w2 ho;obtain ⟨hg,rfl⟩:=ho.none (chooseU_none HC.out);have HGN:=Aside0.mk ((SQ1.out.put0 4).gr_gs hg);clear hg ho))
        exact ⟨rfl,OutS.of_none HM.out HGN.out⟩
       | some p =>
        obtain ⟨y,r1⟩:=p
        rw [hc] at hm
        simp only at hm
        have HC:=Aside0.mk hc
        clear hc
        have HM:=Aside0.mk hm
        clear hm
        go_wp2_with (first | (go_at_call 267;refine (choose_out (SQ1.out.put0 4).sb (k:=k) (by have:=HL.out;omega) (by have:=HL.out;omega)).mono ?_;intro e7 w2 ho;obtain ⟨hg,v,rfl,rfl,hs⟩:=ho.some (chooseU_some HC.out);obtain ⟨a2,sq⟩:=(SQ1.out.put0 4).of_gs hg hs;have SQ2:=Aside0.mk sq;clear hg ho hs sq))
        go_meet
        case rel => exact ⟨_,_,_,HM,⟨SQ2.out⟩⟩
      ·rw [if_neg m3] at hm
       rw [wSelect] at m3
       have q3:(t.f1.toList == [115,101,108,101,99,116])=false:=beq_eq_false_iff_ne.mpr m3
       clear m3
       by_cases m4:t.f1.toList=Ps.sUpdate.toList
       ·rw [if_pos m4] at hm
        rw [wUpdate] at m4
        have q4:(t.f1.toList == [117,112,100,97,116,101])=true:=beq_iff_eq.mpr m4
        clear m4
        cases hnm:Ps.nm r with
        | none =>
         rw [hnm] at hm
         have HN:=Aside0.mk hnm
         clear hnm
         have HM:=Aside0.mk hm
         clear hm
         go_wp2_with (first | (go_at_call 260;refine (name_out SQ1.out.ps).mono ?_;intro e7 w2 ho;obtain ⟨hg,rfl⟩:=ho.none HN.out;have HGN:=Aside0.mk (SQ1.out.gr.trans hg);clear hg ho))
         exact ⟨rfl,OutS.of_none HM.out HGN.out⟩
        | some p =>
         obtain ⟨n,r1⟩:=p
         rw [hnm] at hm
         simp only at hm
         have HN:=Aside0.mk hnm
         clear hnm
         cases hu:Ps.ms [Ps.sSet] r1 with
         | none =>
          rw [hu] at hm
          have HU:=Aside0.mk hu
          clear hu
          have HM:=Aside0.mk hm
          clear hm
          go_wp2_with (first | (go_at_call 260;refine (name_out SQ1.out.ps).mono ?_;intro e7 w2 ho;obtain ⟨hg,v,rfl,rfl,hp⟩:=ho.some HN.out;have SQ2:=Aside0.mk (SQ1.out.go hg hp);have hgt2:gs < w2.heap.size:=SQ2.out.lt;have hb2:=SQ2.out.cell;obtain ⟨y2_0,hy2_0⟩:=SQ2.out.has 0 (by omega);have hz2_0:=SQ2.out.frz 0;obtain ⟨y2_1,hy2_1⟩:=SQ2.out.has 1 (by omega);have hz2_1:=SQ2.out.frz 1;clear hg ho hp) | (go_at_call 259;refine (must1 ((SQ2.out.put0 5).put1 n).ps (by simp) Ps.sSet 1).mono ?_;intro e7 w3 ho;obtain ⟨hg,rfl⟩:=ho.none (msU_none HU.out);have HGN:=Aside0.mk (((SQ2.out.put0 5).put1 n).gr.trans hg);clear hg ho))
          exact ⟨rfl,OutS.of_none HM.out HGN.out⟩
         | some r2 =>
          rw [hu] at hm
          simp only at hm
          have HU:=Aside0.mk hu
          clear hu
          cases hl:Ps.list (Ps.setU k) k () r2 with
          | none =>
           rw [hl] at hm
           have HR:=Aside0.mk hl
           clear hl
           have HM:=Aside0.mk hm
           clear hm
           go_wp2_with (first | (go_at_call 260;refine (name_out SQ1.out.ps).mono ?_;intro e7 w2 ho;obtain ⟨hg,v,rfl,rfl,hp⟩:=ho.some HN.out;have SQ2:=Aside0.mk (SQ1.out.go hg hp);have hgt2:gs < w2.heap.size:=SQ2.out.lt;have hb2:=SQ2.out.cell;obtain ⟨y2_0,hy2_0⟩:=SQ2.out.has 0 (by omega);have hz2_0:=SQ2.out.frz 0;obtain ⟨y2_1,hy2_1⟩:=SQ2.out.has 1 (by omega);have hz2_1:=SQ2.out.frz 1;clear hg ho hp) | (go_at_call 259;refine (must1 ((SQ2.out.put0 5).put1 n).ps (by simp) Ps.sSet 1).mono ?_;intro e7 w3 ho;obtain ⟨hg,v,rfl,rfl,hp⟩:=ho.some (msU_some HU.out);have SQ3:=Aside0.mk (((SQ2.out.put0 5).put1 n).go hg hp);have hgt3:gs < w3.heap.size:=SQ3.out.lt;have hb3:=SQ3.out.cell;clear hg ho hp) | (go_at_call 268;refine (sets_out SQ3.out.ps (k:=k) (by have:=Ps.nm_len HN.out;have:=Ps.ms_len HU.out;have:=HL.out;omega) (by have:=Ps.nm_len HN.out;have:=Ps.ms_len HU.out;have:=HL.out;omega)).mono ?_;intro e7 w4 ho;obtain ⟨hg,rfl⟩:=ho.none (listU_none HR.out);have HGN:=Aside0.mk (SQ3.out.gr.trans hg);clear hg ho))
           exact ⟨rfl,OutS.of_none HM.out HGN.out⟩
          | some p =>
           obtain ⟨⟨l,u⟩,r3⟩:=p
           rw [hl] at hm
           simp only at hm
           have HR:=Aside0.mk hl
           clear hl
           cases hw:Ps.whr k r3 with
           | none =>
            rw [hw] at hm
            have HW:=Aside0.mk hw
            clear hw
            have HM:=Aside0.mk hm
            clear hm
            go_wp2_with (first | (go_at_call 260;refine (name_out SQ1.out.ps).mono ?_;intro e7 w2 ho;obtain ⟨hg,v,rfl,rfl,hp⟩:=ho.some HN.out;have SQ2:=Aside0.mk (SQ1.out.go hg hp);have hgt2:gs < w2.heap.size:=SQ2.out.lt;have hb2:=SQ2.out.cell;obtain ⟨y2_0,hy2_0⟩:=SQ2.out.has 0 (by omega);have hz2_0:=SQ2.out.frz 0;obtain ⟨y2_1,hy2_1⟩:=SQ2.out.has 1 (by omega);have hz2_1:=SQ2.out.frz 1;clear hg ho hp) | (go_at_call 259;refine (must1 ((SQ2.out.put0 5).put1 n).ps (by simp) Ps.sSet 1).mono ?_;intro e7 w3 ho;obtain ⟨hg,v,rfl,rfl,hp⟩:=ho.some (msU_some HU.out);have SQ3:=Aside0.mk (((SQ2.out.put0 5).put1 n).go hg hp);have hgt3:gs < w3.heap.size:=SQ3.out.lt;have hb3:=SQ3.out.cell;clear hg ho hp) | (go_at_call 268;refine (sets_out SQ3.out.ps (k:=k) (by have:=Ps.nm_len HN.out;have:=Ps.ms_len HU.out;have:=HL.out;omega) (by have:=Ps.nm_len HN.out;have:=Ps.ms_len HU.out;have:=HL.out;omega)).mono ?_;intro e7 w4 ho;obtain ⟨hg,v,rfl,hv,hp⟩:=ho.some (listU_some HR.out);obtain ⟨Ax,nx,rfl,hnx,hfx⟩:=hv;have SQ4:=Aside0.mk (SQ3.out.go hg hp);have hgt4:gs < w4.heap.size:=SQ4.out.lt;have hb4:=SQ4.out.cell;obtain ⟨y4_6,hy4_6⟩:=SQ4.out.has 6 (by omega);have hz4_6:=SQ4.out.frz 6;have HNX:=Aside0.mk hnx;have HFX:=Aside0.mk (Kd.F_mono hfx (ok':=fun q => gs < q) (fun q hq => Nat.lt_of_lt_of_le SQ3.out.lt hq));clear hg ho hp hnx hfx) | (go_at_call 270;refine (where_out (SQ4.out.put6 HNX.out HFX.out).ps (k:=k) (by have:=Ps.nm_len HN.out;have:=Ps.ms_len HU.out;have:=setsU_len HR.out;have:=HL.out;omega)).mono ?_;intro e7 w5 ho;obtain ⟨hg,rfl⟩:=ho.none HW.out;have HGN:=Aside0.mk ((SQ4.out.put6 HNX.out HFX.out).gr.trans hg);clear hg ho))
            exact ⟨rfl,OutS.of_none HM.out HGN.out⟩
           | some p =>
            obtain ⟨wl,r4⟩:=p
            rw [hw] at hm
            simp only at hm
            have HW:=Aside0.mk hw
            clear hw
            have HM:=Aside0.mk hm
            clear hm
            go_wp2_with (first | (go_at_call 260;refine (name_out SQ1.out.ps).mono ?_;intro e7 w2 ho;obtain ⟨hg,v,rfl,rfl,hp⟩:=ho.some HN.out;have SQ2:=Aside0.mk (SQ1.out.go hg hp);have hgt2:gs < w2.heap.size:=SQ2.out.lt;have hb2:=SQ2.out.cell;obtain ⟨y2_0,hy2_0⟩:=SQ2.out.has 0 (by omega);have hz2_0:=SQ2.out.frz 0;obtain ⟨y2_1,hy2_1⟩:=SQ2.out.has 1 (by omega);have hz2_1:=SQ2.out.frz 1;clear hg ho hp) | (go_at_call 259;refine (must1 ((SQ2.out.put0 5).put1 n).ps (by simp) Ps.sSet 1).mono ?_;intro e7 w3 ho;obtain ⟨hg,v,rfl,rfl,hp⟩:=ho.some (msU_some HU.out);have SQ3:=Aside0.mk (((SQ2.out.put0 5).put1 n).go hg hp);have hgt3:gs < w3.heap.size:=SQ3.out.lt;have hb3:=SQ3.out.cell;clear hg ho hp) | (go_at_call 268;refine (sets_out SQ3.out.ps (k:=k) (by have:=Ps.nm_len HN.out;have:=Ps.ms_len HU.out;have:=HL.out;omega) (by have:=Ps.nm_len HN.out;have:=Ps.ms_len HU.out;have:=HL.out;omega)).mono ?_;intro e7 w4 ho;obtain ⟨hg,v,rfl,hv,hp⟩:=ho.some (listU_some HR.out);obtain ⟨Ax,nx,rfl,hnx,hfx⟩:=hv;have SQ4:=Aside0.mk (SQ3.out.go hg hp);have hgt4:gs < w4.heap.size:=SQ4.out.lt;have hb4:=SQ4.out.cell;obtain ⟨y4_6,hy4_6⟩:=SQ4.out.has 6 (by omega);have hz4_6:=SQ4.out.frz 6;have HNX:=Aside0.mk hnx;have HFX:=Aside0.mk (Kd.F_mono hfx (ok':=fun q => gs < q) (fun q hq => Nat.lt_of_lt_of_le SQ3.out.lt hq));clear hg ho hp hnx hfx) | (go_at_call 270;refine (where_out (SQ4.out.put6 HNX.out HFX.out).ps (k:=k) (by have:=Ps.nm_len HN.out;have:=Ps.ms_len HU.out;have:=setsU_len HR.out;have:=HL.out;omega)).mono ?_;intro e7 w5 ho;obtain ⟨hg,v,rfl,hv,hp⟩:=ho.some HW.out;obtain ⟨Ax,nx,rfl,hnx,hfx⟩:=hv;have SQ5:=Aside0.mk ((SQ4.out.put6 HNX.out HFX.out).go hg hp);have hgt5:gs < w5.heap.size:=SQ5.out.lt;have hb5:=SQ5.out.cell;obtain ⟨y5_7,hy5_7⟩:=SQ5.out.has 7 (by omega);have hz5_7:=SQ5.out.frz 7;have HNY:=Aside0.mk hnx;have HFY:=Aside0.mk (Kd.F_mono hfx (ok':=fun q => gs < q) (fun q hq => Nat.lt_of_lt_of_le (SQ4.out.put6 HNX.out HFX.out).lt hq));clear hg ho hp hnx hfx))
            go_meet
            case rel => exact ⟨_,_,_,HM,⟨SQ5.out.put7 HNY.out HFY.out⟩⟩
       ·rw [if_neg m4] at hm
        rw [wUpdate] at m4
        have q4:(t.f1.toList == [117,112,100,97,116,101])=false:=beq_eq_false_iff_ne.mpr m4
        clear m4
        by_cases m5:t.f1.toList=Ps.sDelete.toList
        ·rw [if_pos m5] at hm
         rw [wDelete] at m5
         have q5:(t.f1.toList == [100,101,108,101,116,101])=true:=beq_iff_eq.mpr m5
         clear m5
         simp only [Ps.head] at hm
         cases hu:Ps.ms [Ps.sFrom] r with
         | none =>
          rw [hu] at hm
          have HU:=Aside0.mk hu
          clear hu
          have HM:=Aside0.mk hm
          clear hm
          go_wp2_with (first | (go_at_call 259;refine (must1 SQ1.out.ps (by simp) Ps.sFrom 1).mono ?_;intro e7 w2 ho;obtain ⟨hg,rfl⟩:=ho.none (msU_none HU.out);have HGN:=Aside0.mk (SQ1.out.gr.trans hg);clear hg ho))
          exact ⟨rfl,OutS.of_none HM.out HGN.out⟩
         | some r0 =>
          rw [hu] at hm
          simp only at hm
          have HU:=Aside0.mk hu
          clear hu
          cases hnm:Ps.nm r0 with
          | none =>
           rw [hnm] at hm
           have HN:=Aside0.mk hnm
           clear hnm
           have HM:=Aside0.mk hm
           clear hm
           go_wp2_with (first | (go_at_call 259;refine (must1 SQ1.out.ps (by simp) Ps.sFrom 1).mono ?_;intro e7 w2 ho;obtain ⟨hg,v,rfl,rfl,hp⟩:=ho.some (msU_some HU.out);have SQ2:=Aside0.mk (SQ1.out.go hg hp);have hgt2:gs < w2.heap.size:=SQ2.out.lt;have hb2:=SQ2.out.cell;clear hg ho hp) | (go_at_call 260;refine (name_out SQ2.out.ps).mono ?_;intro e7 w3 ho;obtain ⟨hg,rfl⟩:=ho.none HN.out;have HGN:=Aside0.mk (SQ2.out.gr.trans hg);clear hg ho))
           exact ⟨rfl,OutS.of_none HM.out HGN.out⟩
          | some p =>
           obtain ⟨n,r1⟩:=p
           rw [hnm] at hm
           simp only at hm
           have HN:=Aside0.mk hnm
           clear hnm
           have HL1:=Aside0.mk (show r1.length ≤ ts.length by have:=Ps.nm_len HN.out;have:=Ps.ms_len HU.out;have:=HL.out;omega)
           cases hw:Ps.whr k r1 with
           | none =>
            rw [hw] at hm
            have HW:=Aside0.mk hw
            clear hw
            have HM:=Aside0.mk hm
            clear hm
            go_wp2_with (first | (go_at_call 259;refine (must1 SQ1.out.ps (by simp) Ps.sFrom 1).mono ?_;intro e7 w2 ho;obtain ⟨hg,v,rfl,rfl,hp⟩:=ho.some (msU_some HU.out);have SQ2:=Aside0.mk (SQ1.out.go hg hp);have hgt2:gs < w2.heap.size:=SQ2.out.lt;have hb2:=SQ2.out.cell;clear hg ho hp) | (go_at_call 260;refine (name_out SQ2.out.ps).mono ?_;intro e7 w3 ho;obtain ⟨hg,v,rfl,rfl,hp⟩:=ho.some HN.out;have SQ3:=Aside0.mk (SQ2.out.go hg hp);have hgt3:gs < w3.heap.size:=SQ3.out.lt;have hb3:=SQ3.out.cell;obtain ⟨y3_0,hy3_0⟩:=SQ3.out.has 0 (by omega);have hz3_0:=SQ3.out.frz 0;obtain ⟨y3_1,hy3_1⟩:=SQ3.out.has 1 (by omega);have hz3_1:=SQ3.out.frz 1;clear hg ho hp) | (go_at_call 270;refine (where_out ((SQ3.out.put0 6).put1 n).ps (k:=k) (by have:=HL1.out;omega)).mono ?_;intro e7 w4 ho;obtain ⟨hg,rfl⟩:=ho.none HW.out;have HGN:=Aside0.mk (((SQ3.out.put0 6).put1 n).gr.trans hg);clear hg ho))
            exact ⟨rfl,OutS.of_none HM.out HGN.out⟩
           | some p =>
            obtain ⟨wl,r2⟩:=p
            rw [hw] at hm
            simp only at hm
            have HW:=Aside0.mk hw
            clear hw
            have HM:=Aside0.mk hm
            clear hm
            go_wp2_with (first | (go_at_call 259;refine (must1 SQ1.out.ps (by simp) Ps.sFrom 1).mono ?_;intro e7 w2 ho;obtain ⟨hg,v,rfl,rfl,hp⟩:=ho.some (msU_some HU.out);have SQ2:=Aside0.mk (SQ1.out.go hg hp);have hgt2:gs < w2.heap.size:=SQ2.out.lt;have hb2:=SQ2.out.cell;clear hg ho hp) | (go_at_call 260;refine (name_out SQ2.out.ps).mono ?_;intro e7 w3 ho;obtain ⟨hg,v,rfl,rfl,hp⟩:=ho.some HN.out;have SQ3:=Aside0.mk (SQ2.out.go hg hp);have hgt3:gs < w3.heap.size:=SQ3.out.lt;have hb3:=SQ3.out.cell;obtain ⟨y3_0,hy3_0⟩:=SQ3.out.has 0 (by omega);have hz3_0:=SQ3.out.frz 0;obtain ⟨y3_1,hy3_1⟩:=SQ3.out.has 1 (by omega);have hz3_1:=SQ3.out.frz 1;clear hg ho hp) | (go_at_call 270;refine (where_out ((SQ3.out.put0 6).put1 n).ps (k:=k) (by have:=HL1.out;omega)).mono ?_;intro e7 w4 ho;obtain ⟨hg,v,rfl,hv,hp⟩:=ho.some HW.out;obtain ⟨Ax,nx,rfl,hnx,hfx⟩:=hv;have SQ4:=Aside0.mk (((SQ3.out.put0 6).put1 n).go hg hp);have hgt4:gs < w4.heap.size:=SQ4.out.lt;have hb4:=SQ4.out.cell;obtain ⟨y4_7,hy4_7⟩:=SQ4.out.has 7 (by omega);have hz4_7:=SQ4.out.frz 7;have HNX:=Aside0.mk hnx;have HFX:=Aside0.mk (Kd.F_mono hfx (ok':=fun q => gs < q) (fun q hq => Nat.lt_of_lt_of_le ((SQ3.out.put0 6).put1 n).lt hq));clear hg ho hp hnx hfx))
            go_meet
            case rel => exact ⟨_,_,_,HM,⟨SQ4.out.put7 HNX.out HFX.out⟩⟩
        ·rw [if_neg m5] at hm
         rw [wDelete] at m5
         have q5:(t.f1.toList == [100,101,108,101,116,101])=false:=beq_eq_false_iff_ne.mpr m5
         clear m5
         have HM:=Aside0.mk hm
         clear hm
         go_wp2_with (first | (go_at_call 264;refine (fail_calls g _).mono ?_;rintro e8 w8 ⟨rfl,rfl⟩))
         exact ⟨rfl,OutS.of_none HM.out SQ1.out.gr⟩
  case rest =>
   clear SQ1
   obtain ⟨x,a,tq,HM,SQ2⟩:=hcut
   have hgt2:=SQ2.out.lt
   have hb2:=SQ2.out.cell
   have hm:=HM.out
   clear HM
   unfold Ps.fin at hm
   cases ht:Ps.tk Ps.sSemi tq with
   | none =>
    rw [ht] at hm
    have HT:=Aside0.mk ht
    clear ht
    have HM:=Aside0.mk hm
    clear hm
    go_wp2_with (first | (go_at_call 271;refine (take_out SQ2.out.ps Ps.sSemi).mono ?_;intro e7 w3 ho;obtain ⟨hg,rfl⟩:=ho.none HT.out;have HGN:=Aside0.mk (SQ2.out.gr.trans hg);clear hg ho))
    exact ⟨rfl,OutS.of_none HM.out HGN.out⟩
   | some p =>
    obtain ⟨b,q⟩:=p
    rw [ht] at hm
    simp only at hm
    have HT:=Aside0.mk ht
    clear ht
    have HM:=Aside0.mk hm
    clear hm
    go_upto_region 33 with (first | (go_at_call 271;refine (take_out SQ2.out.ps Ps.sSemi).mono ?_;intro e7 w3 ho;obtain ⟨hg,v,rfl,rfl,hp⟩:=ho.some HT.out;have SQ3:=Aside0.mk (SQ2.out.go hg hp);have hgt3:gs < w3.heap.size:=SQ3.out.lt;have hb3:=SQ3.out.cell;clear hg ho hp))
    have hm:=HM.out
    clear HM
    obtain ⟨e,q1,rfl⟩:=SQ3.out.ps.ends.cons
    obtain ⟨ad,c,hc,hC,hbl,c0,c1,c2⟩:=SQ3.out.ps.slice
    have hg0:w3.cell? ⟨g,0,none⟩=some (.slice (some ad) (q1.length + 1) c):=(blk_cell hbl 0).trans rfl
    have hal:=World.block_lt_of_cell? w3 _ c0
    clear hC hbl c1 c2
    simp only at hm
    by_cases k0:e.f0=0
    ·rw [if_pos k0] at hm
     have b0:(e.f0 != 0)=false:=bne_eq_false_iff_eq.mpr k0
     clear k0
     have BS:=Aside0.mk SQ3.out.st
     have BR:=Aside0.mk SQ3.out.res
     have HF:=Aside0.mk SQ3.out.fr
     have HG:=Aside0.mk SQ3.out.gr
     have hrb:w.heap.size ≤ rb:=by omega
     have hrt:rb < w3.heap.size:=blk_lt BR.out
     have sc0:w3.cell? ⟨gs,0,none⟩=some (.int .i64 x.f0):=(blk_cell BS.out 0).trans rfl
     have sc1:w3.cell? ⟨gs,1,none⟩=some (.string x.f1):=(blk_cell BS.out 1).trans rfl
     have sc2:w3.cell? ⟨gs,2,none⟩=some (.slice a.a2 x.f2.length a.c2):=(blk_cell BS.out 2).trans rfl
     have sc3:w3.cell? ⟨gs,3,none⟩=some (.string x.f3):=(blk_cell BS.out 3).trans rfl
     have sc4:w3.cell? ⟨gs,4,none⟩=some (.slice a.a4 x.f4.length a.c4):=(blk_cell BS.out 4).trans rfl
     have sc5:w3.cell? ⟨gs,5,none⟩=some (.slice a.a5 x.f5.length a.c5):=(blk_cell BS.out 5).trans rfl
     have sc6:w3.cell? ⟨gs,6,none⟩=some (.slice a.a6 x.f6.length a.c6):=(blk_cell BS.out 6).trans rfl
     have sc7:w3.cell? ⟨gs,7,none⟩=some (.slice a.a7 x.f7.length a.c7):=(blk_cell BS.out 7).trans rfl
     have sc8:w3.cell? ⟨gs,8,none⟩=some (.string x.f8):=(blk_cell BS.out 8).trans rfl
     have sc9:w3.cell? ⟨gs,9,none⟩=some (.bool x.f9):=(blk_cell BS.out 9).trans rfl
     have sc10:w3.cell? ⟨gs,10,none⟩=some (.int .i64 x.f10):=(blk_cell BS.out 10).trans rfl
     have rc0:w3.cell? ⟨rb,0,none⟩=some (.int .i64 0):=(blk_cell BR.out 0).trans rfl
     have rc1:w3.cell? ⟨rb,1,none⟩=some (.string ⟨#[]⟩):=(blk_cell BR.out 1).trans rfl
     have rc2:w3.cell? ⟨rb,2,none⟩=some (.slice none 0 0):=(blk_cell BR.out 2).trans rfl
     have rc3:w3.cell? ⟨rb,3,none⟩=some (.string ⟨#[]⟩):=(blk_cell BR.out 3).trans rfl
     have rc4:w3.cell? ⟨rb,4,none⟩=some (.slice none 0 0):=(blk_cell BR.out 4).trans rfl
     have rc5:w3.cell? ⟨rb,5,none⟩=some (.slice none 0 0):=(blk_cell BR.out 5).trans rfl
     have rc6:w3.cell? ⟨rb,6,none⟩=some (.slice none 0 0):=(blk_cell BR.out 6).trans rfl
     have rc7:w3.cell? ⟨rb,7,none⟩=some (.slice none 0 0):=(blk_cell BR.out 7).trans rfl
     have rc8:w3.cell? ⟨rb,8,none⟩=some (.string ⟨#[]⟩):=(blk_cell BR.out 8).trans rfl
     have rc9:w3.cell? ⟨rb,9,none⟩=some (.bool false):=(blk_cell BR.out 9).trans rfl
     have rc10:w3.cell? ⟨rb,10,none⟩=some (.int .i64 0):=(blk_cell BR.out 10).trans rfl
     have rz0:=blk_frozen BR.out 0
     have rz1:=blk_frozen BR.out 1
     have rz2:=blk_frozen BR.out 2
     have rz3:=blk_frozen BR.out 3
     have rz4:=blk_frozen BR.out 4
     have rz5:=blk_frozen BR.out 5
     have rz6:=blk_frozen BR.out 6
     have rz7:=blk_frozen BR.out 7
     have rz8:=blk_frozen BR.out 8
     have rz9:=blk_frozen BR.out 9
     have rz10:=blk_frozen BR.out 10
     have HM:=Aside0.mk hm
     clear hm
     go_wp2
     refine bodyPost_ret (v:=.agg (celA x a)) ?_ rfl ?_
     ·simp [results,Tryz.results179,go_sem,celA,cells60,rc0,rz0,rc1,rz1,rc2,rz2,rc3,rz3,rc4,rz4,rc5,rz5,rc6,rz6,rc7,rz7,rc8,rz8,rc9,rz9,rc10,rz10,hrt]
     ·refine OutS.of_some HM.out ?_ ⟨a,rfl,?_⟩
      ·with_reducible (repeat (first | exact HG.out | refine Gr.setB ?_ hrb _ _))
      ·refine StF.mono (ok:=fun q => gs < q) ?_ (fun q hq => by have h1:gs < q:=hq;omega)
       have hne:∀ q,gs < q → q ≠ rb:=fun q hq => by omega
       with_reducible (repeat (first | exact HF.out | refine StF.far ?_ hne _ _))
    ·rw [if_neg k0] at hm
     have b0:(e.f0 != 0)=true:=bne_iff_ne.mpr k0
     clear k0
     have HM:=Aside0.mk hm
     clear hm
     go_wp2_with (first | (go_at_call 264;refine (fail_calls g _).mono ?_;rintro e8 w8 ⟨rfl,rfl⟩))
     exact ⟨rfl,OutS.of_none HM.out SQ3.out.gr⟩
end Go.Proofs.YtcgdncpioafbdaaGreatDoor.Q
namespace Go.Proofs.YtcgdncpioafbdaaGreatDoor.Q
open Go Go.RowKit Go.Proofs.YtcgdncpioafbdaaGreatDoorW.PrintWords
set_option maxRecDepth 100000 in
theorem catch_idle (p q:Value) (w:World) :
  CallsD Tryz.prog 178 #[p,q] .returning w fun e u' w' => e = .returned (.tuple #[])∧u' = .returning∧w'=w:=by
 refine callsD_of_wpS Tryz.func178 rfl fun c₀ cs hu => ?_
 apply wpS_seq
 apply wpS_region
 simp [wpOpsS,go_sem,recoverD,hu,Tryz.ntmps178,Exit.thenS]
 apply wpS_seq
 apply wpS_region
 simp [wpOpsS,go_sem,Exit.thenS]
 refine wpS_cond (t:=false) (by simp [Act.eval,Array.replicate]) ?_
 simp only [Bool.false_eq_true,if_false]
 refine wpS_of_wp (wp_skip ?_)
 cases c₀
 simp_all [bodyPostS,results,Tryz.results178]
def IdlePost (sb ob:Nat) (w w':World):Prop:=w.heap.size ≤ w'.heap.size∧w'.os=w.os∧w'.tape=w.tape∧w'.output=w.output∧(∀ i,i < w.heap.size → i ≠ sb → i ≠ ob → w'.heap[i]? = w.heap[i]?)∧w'.heap[sb]? = some (.cells (celA z60 {}) 60 (0,0))∧w'.heap[ob]? = some (.cells #[.bool false] 4 (0,0))
theorem IdlePost.s {sb ob:Nat} {w w':World} (h:IdlePost sb ob w w') (hne:ob ≠ sb) (j:Nat) (v:Value) (e:(celA z60 {}).setIfInBounds j v=celA z60 {}):IdlePost sb ob w (w'.setCell ⟨sb,j,none⟩ v):=by
 obtain ⟨h1,h2,h3,h4,h5,h6,h7⟩:=h
 have hc:Below 0 w' (w'.setCell ⟨sb,j,none⟩ v):=((Below.refl w'.heap.size w').mono (Nat.zero_le _)).setCell (Nat.zero_le _) v
 refine ⟨Nat.le_trans h1 hc.size,hc.os.trans h2,hc.tape.trans h3,hc.output.trans h4,fun i hi hs ho => (Below.heap_setCell w' ⟨sb,j,none⟩ v i hs).trans (h5 i hi hs ho),?_,blk_setNe h7 hne _ _⟩
 have:=blk_put h6 j v rfl
 rw [e] at this
 exact this
theorem IdlePost.o {sb ob:Nat} {w w':World} (h:IdlePost sb ob w w') (hne:sb ≠ ob):IdlePost sb ob w (w'.setCell ⟨ob,0,none⟩ (.bool false)):=by
 obtain ⟨h1,h2,h3,h4,h5,h6,h7⟩:=h
 have hc:Below 0 w' (w'.setCell ⟨ob,0,none⟩ (.bool false)):=((Below.refl w'.heap.size w').mono (Nat.zero_le _)).setCell (Nat.zero_le _) _
 exact ⟨Nat.le_trans h1 hc.size,hc.os.trans h2,hc.tape.trans h3,hc.output.trans h4,fun i hi hs ho => (Below.heap_setCell w' ⟨ob,0,none⟩ _ i ho).trans (h5 i hi hs ho),blk_setNe h6 hne _ _,blk_put h7 0 _ rfl⟩
set_option maxHeartbeats 400000 in
set_option maxRecDepth 100000 in
theorem catch_failed (sb ob:Nat) (hso:sb < ob) (w:World) (hs:w.heap[sb]? = some (.cells (celA z60 {}) 60 (0,0))) (ho:w.heap[ob]? = some (.cells #[.bool false] 4 (0,0))) :
  CallsD Tryz.prog 178 #[.pointer (some ⟨sb,0,none⟩),.pointer (some ⟨ob,0,none⟩)] (.panicking failedV) w fun e u' w' => e = .returned (.tuple #[])∧u' = .panicking [{ v:=.iface 227 (.agg #[]),recovered:=true }]∧IdlePost sb ob w w':=by
 have hta:∀ w:World,(Instr.typeAssert (.iface 227 (.agg #[])) 20 227 true).run Tryz.prog w = .ok (.tuple #[.agg #[],.bool true]) w:=fun _ => by kernel_rfl
 have HS0:=Aside0.mk hs
 have HO0:=Aside0.mk ho
 clear hs ho
 refine callsD_of_wpS Tryz.func178 rfl fun c₀ cs hu => ?_
 have HU:=Aside0.mk hu
 apply wpS_seq
 apply wpS_region
 simp [wpOpsS,go_sem,recoverD,hu,failedV,Tryz.ntmps178,Exit.thenS]
 apply wpS_seq
 apply wpS_region
 simp [wpOpsS,go_sem,Exit.thenS]
 refine wpS_cond (t:=true) (by simp [Act.eval,Array.replicate]) ?_
 simp only [if_true]
 refine wpS_of_wp (Code.wp_mono (Q:=fun e a' w' => e = .normal∧a'.defers=[]∧IdlePost sb ob w w') ?_ ?_)
 ·rintro e a' w' ⟨rfl,hd,hp⟩
  cases c₀
  simp_all [bodyPostS,results,Tryz.results178,IdlePost]
 ·clear HU hu
  change Code.wp _ _ _ (⟨#[.pointer (some ⟨sb,0,none⟩),.pointer (some ⟨ob,0,none⟩),.iface 227 (.agg #[]),undef,undef,.iface 227 (.agg #[]),.iface 227 (.agg #[]),.bool true,undef,undef,undef,undef,undef,undef,undef,undef,undef],[]⟩:Act) w
  go_upto_region 3 with (fail)
  obtain ⟨W,hW⟩:∃ W,W=w.alloc (.cells #[] 227 (0,0)):=⟨_,rfl⟩
  rw [← hW]
  have HS:=Aside0.mk (show W.heap[sb]? = _ from hW ▸ blk_alloc HS0.out _)
  have HO:=Aside0.mk (show W.heap[ob]? = _ from hW ▸ blk_alloc HO0.out _)
  have HB:=Aside0.mk (show Below w.heap.size w W from hW ▸ below_alloc (Below.refl _ _) _)
  clear hW
  have hsl:=blk_lt HS.out
  have hol:=blk_lt HO.out
  have oc0:W.cell? ⟨ob,0,none⟩=some (.bool false):=(blk_cell HO.out 0).trans rfl
  have oz0:=blk_frozen HO.out 0
  have rc0:W.cell? ⟨sb,0,none⟩=some (.int .i64 0):=(blk_cell HS.out 0).trans rfl
  have rc1:W.cell? ⟨sb,1,none⟩=some (.string ⟨#[]⟩):=(blk_cell HS.out 1).trans rfl
  have rc2:W.cell? ⟨sb,2,none⟩=some (.slice none 0 0):=(blk_cell HS.out 2).trans rfl
  have rc3:W.cell? ⟨sb,3,none⟩=some (.string ⟨#[]⟩):=(blk_cell HS.out 3).trans rfl
  have rc4:W.cell? ⟨sb,4,none⟩=some (.slice none 0 0):=(blk_cell HS.out 4).trans rfl
  have rc5:W.cell? ⟨sb,5,none⟩=some (.slice none 0 0):=(blk_cell HS.out 5).trans rfl
  have rc6:W.cell? ⟨sb,6,none⟩=some (.slice none 0 0):=(blk_cell HS.out 6).trans rfl
  have rc7:W.cell? ⟨sb,7,none⟩=some (.slice none 0 0):=(blk_cell HS.out 7).trans rfl
  have rc8:W.cell? ⟨sb,8,none⟩=some (.string ⟨#[]⟩):=(blk_cell HS.out 8).trans rfl
  have rc9:W.cell? ⟨sb,9,none⟩=some (.bool false):=(blk_cell HS.out 9).trans rfl
  have rc10:W.cell? ⟨sb,10,none⟩=some (.int .i64 0):=(blk_cell HS.out 10).trans rfl
  have rz0:=blk_frozen HS.out 0
  have rz1:=blk_frozen HS.out 1
  have rz2:=blk_frozen HS.out 2
  have rz3:=blk_frozen HS.out 3
  have rz4:=blk_frozen HS.out 4
  have rz5:=blk_frozen HS.out 5
  have rz6:=blk_frozen HS.out 6
  have rz7:=blk_frozen HS.out 7
  have rz8:=blk_frozen HS.out 8
  have rz9:=blk_frozen HS.out 9
  have rz10:=blk_frozen HS.out 10
  have hne:ob ≠ sb:=by omega
  have hne':sb ≠ ob:=by omega
  go_wp2
  have HI:Aside0 (IdlePost sb ob w W):=⟨⟨HB.out.size,HB.out.os,HB.out.tape,HB.out.output,fun i hi _ _ => HB.out.block i hi,HS.out,HO.out⟩⟩
  with_reducible (repeat (first | exact HI.out | refine IdlePost.o ?_ hne' | refine IdlePost.s ?_ hne _ _ rfl))
structure RD (w:World) (sb ob g:Nat) (ts:List S32) (W:World):Prop where
 ps:PS w g ts W
 s:W.heap[sb]? = some (.cells (celA z60 {}) 60 (0,0))
 o:W.heap[ob]? = some (.cells #[.bool false] 4 (0,0))
 below:Below w.heap.size w W
 o1:w.heap.size ≤ sb
 o2:sb < ob
 o3:ob < g
theorem RD.start {w:World} {A:Option Addr} {c:Nat} {ts:List S32} (hC:k32.C w A ts.length ts) (hc:ts.length ≤ c) (he:Ends ts):RD w w.heap.size (w.heap.size + 1) (w.heap.size + 1 + 1) ts (((w.alloc (.cells (celA z60 {}) 60 (0,0))).alloc (.cells #[.bool false] 4 (0,0))).alloc (.cells #[.slice A ts.length c] 231 (0,0))):=by
 have e1:(w.alloc (.cells (celA z60 {}) 60 (0,0))).heap.size=w.heap.size + 1:=by simp
 have e2:((w.alloc (.cells (celA z60 {}) 60 (0,0))).alloc (.cells #[.bool false] 4 (0,0))).heap.size=w.heap.size + 1 + 1:=by simp
 have hB:Below w.heap.size w (((w.alloc (.cells (celA z60 {}) 60 (0,0))).alloc (.cells #[.bool false] 4 (0,0))).alloc (.cells #[.slice A ts.length c] 231 (0,0))):=below_alloc (below_alloc (below_alloc (Below.refl _ _) _) _) _
 exact ⟨⟨by omega,by simp,hB,⟨A,c,hc,hC,new_blk _ e2⟩,he⟩,blk_alloc (blk_alloc (new_blk _ rfl) _) _,blk_alloc (new_blk _ e1) _,hB,Nat.le_refl _,by omega,by omega⟩
def OutR (w:World) (m:Option S60) (e:Ending) (w':World):Prop :=
 Below w.heap.size w w'∧∃ v,e = .returned (.tuple #[v,.bool m.isSome])∧Vst w.heap.size w' (m.getD z60) v
theorem vst_zero (B:Nat) (w:World):Vst B w z60 (.agg (celA z60 {})):=⟨{},rfl,⟨Nat.le_refl _,Kd.F_nil _ _ _,Nat.le_refl _,Kd.F_nil _ _ _,Nat.le_refl _,Kd.F_nil _ _ _,Nat.le_refl _,Kd.F_nil _ _ _,Nat.le_refl _,Kd.F_nil _ _ _⟩⟩
theorem blk_put11 {w:World} {g:Nat} {a0 a1 a2 a3 a4 a5 a6 a7 a8 a9 a10 v0 v1 v2 v3 v4 v5 v6 v7 v8 v9 v10:Value} (h:w.heap[g]? = some (.cells #[a0,a1,a2,a3,a4,a5,a6,a7,a8,a9,a10] 60 (0,0))) :
  (((((((((((w.setCell ⟨g,0,none⟩ v0).setCell ⟨g,1,none⟩ v1).setCell ⟨g,2,none⟩ v2).setCell ⟨g,3,none⟩ v3).setCell ⟨g,4,none⟩ v4).setCell ⟨g,5,none⟩ v5).setCell ⟨g,6,none⟩ v6).setCell ⟨g,7,none⟩ v7).setCell ⟨g,8,none⟩ v8).setCell ⟨g,9,none⟩ v9).setCell ⟨g,10,none⟩ v10).heap[g]? = some (.cells #[v0,v1,v2,v3,v4,v5,v6,v7,v8,v9,v10] 60 (0,0)):=by
 have h1:=blk_put (cs':=#[v0,a1,a2,a3,a4,a5,a6,a7,a8,a9,a10]) h 0 v0 rfl
 have h2:=blk_put (cs':=#[v0,v1,a2,a3,a4,a5,a6,a7,a8,a9,a10]) h1 1 v1 rfl
 have h3:=blk_put (cs':=#[v0,v1,v2,a3,a4,a5,a6,a7,a8,a9,a10]) h2 2 v2 rfl
 have h4:=blk_put (cs':=#[v0,v1,v2,v3,a4,a5,a6,a7,a8,a9,a10]) h3 3 v3 rfl
 have h5:=blk_put (cs':=#[v0,v1,v2,v3,v4,a5,a6,a7,a8,a9,a10]) h4 4 v4 rfl
 have h6:=blk_put (cs':=#[v0,v1,v2,v3,v4,v5,a6,a7,a8,a9,a10]) h5 5 v5 rfl
 have h7:=blk_put (cs':=#[v0,v1,v2,v3,v4,v5,v6,a7,a8,a9,a10]) h6 6 v6 rfl
 have h8:=blk_put (cs':=#[v0,v1,v2,v3,v4,v5,v6,v7,a8,a9,a10]) h7 7 v7 rfl
 have h9:=blk_put (cs':=#[v0,v1,v2,v3,v4,v5,v6,v7,v8,a9,a10]) h8 8 v8 rfl
 have h10:=blk_put (cs':=#[v0,v1,v2,v3,v4,v5,v6,v7,v8,v9,a10]) h9 9 v9 rfl
 have h11:=blk_put (cs':=#[v0,v1,v2,v3,v4,v5,v6,v7,v8,v9,v10]) h10 10 v10 rfl
 exact h11
abbrev fillW (W:World) (sb ob:Nat) (v0 v1 v2 v3 v4 v5 v6 v7 v8 v9 v10:Value) (b:Bool):World:=((((((((((((W.setCell ⟨sb,0,none⟩ v0).setCell ⟨sb,1,none⟩ v1).setCell ⟨sb,2,none⟩ v2).setCell ⟨sb,3,none⟩ v3).setCell ⟨sb,4,none⟩ v4).setCell ⟨sb,5,none⟩ v5).setCell ⟨sb,6,none⟩ v6).setCell ⟨sb,7,none⟩ v7).setCell ⟨sb,8,none⟩ v8).setCell ⟨sb,9,none⟩ v9).setCell ⟨sb,10,none⟩ v10).setCell ⟨ob,0,none⟩ (.bool b))
theorem fill_s {W:World} {sb ob:Nat} (hs:W.heap[sb]? = some (.cells (celA z60 {}) 60 (0,0))) (hne:sb ≠ ob) (v0 v1 v2 v3 v4 v5 v6 v7 v8 v9 v10:Value) (b:Bool):(fillW W sb ob v0 v1 v2 v3 v4 v5 v6 v7 v8 v9 v10 b).heap[sb]? = some (.cells #[v0,v1,v2,v3,v4,v5,v6,v7,v8,v9,v10] 60 (0,0)) :=
 blk_setNe (blk_put11 (a0:=.int .i64 0) (a1:=.string ⟨#[]⟩) (a2:=.slice none 0 0) (a3:=.string ⟨#[]⟩) (a4:=.slice none 0 0) (a5:=.slice none 0 0) (a6:=.slice none 0 0) (a7:=.slice none 0 0) (a8:=.string ⟨#[]⟩) (a9:=.bool false) (a10:=.int .i64 0) hs) hne 0 (.bool b)
theorem fill_o {W:World} {sb ob:Nat} (ho:W.heap[ob]? = some (.cells #[.bool false] 4 (0,0))) (hne:ob ≠ sb) (v0 v1 v2 v3 v4 v5 v6 v7 v8 v9 v10:Value) (b:Bool):(fillW W sb ob v0 v1 v2 v3 v4 v5 v6 v7 v8 v9 v10 b).heap[ob]? = some (.cells #[.bool b] 4 (0,0)) :=
 blk_put (blk_setNe (blk_setNe (blk_setNe (blk_setNe (blk_setNe (blk_setNe (blk_setNe (blk_setNe (blk_setNe (blk_setNe (blk_setNe ho hne 0 v0) hne 1 v1) hne 2 v2) hne 3 v3) hne 4 v4) hne 5 v5) hne 6 v6) hne 7 v7) hne 8 v8) hne 9 v9) hne 10 v10) 0 (.bool b) rfl
theorem fill_b {w W:World} {B sb ob:Nat} (h:Below B w W) (hs:B ≤ sb) (ho:B ≤ ob) (v0 v1 v2 v3 v4 v5 v6 v7 v8 v9 v10:Value) (b:Bool):Below B w (fillW W sb ob v0 v1 v2 v3 v4 v5 v6 v7 v8 v9 v10 b):=by
 unfold fillW
 with_reducible (repeat (first | exact h | refine Below.setCell (p:=⟨sb,_,none⟩) ?_ hs _ | refine Below.setCell (p:=⟨ob,_,none⟩) ?_ ho _))
theorem fill_f {W:World} {B sb ob:Nat} {x:S60} {a:Ads} (h:StA (fun q => B ≤ q) W x a) (hs:sb < B) (ho:ob < B) (v0 v1 v2 v3 v4 v5 v6 v7 v8 v9 v10:Value) (b:Bool):StA (fun q => B ≤ q) (fillW W sb ob v0 v1 v2 v3 v4 v5 v6 v7 v8 v9 v10 b) x a:=by
 unfold fillW
 have h1:∀ q,B ≤ q → q ≠ sb:=fun q hq => by omega
 have h2:∀ q,B ≤ q → q ≠ ob:=fun q hq => by omega
 with_reducible (repeat (first | exact h | refine StF.far ?_ h1 _ _ | refine StF.far ?_ h2 _ _))
set_option maxRecDepth 100000 in
theorem res105 {W:World} {sb ob:Nat} {x:S60} {a:Ads} {b:Bool} {tmps:Array Value} (hs:W.heap[sb]? = some (.cells (celA x a) 60 (0,0))) (ho:W.heap[ob]? = some (.cells #[.bool b] 4 (0,0))) (h2:tmps[2]?.getD undef = .pointer (some ⟨sb,0,none⟩)) (h3:tmps[3]?.getD undef = .pointer (some ⟨ob,0,none⟩)):(results Tryz.f105 tmps).run Tryz.prog W = .ok (.tuple #[.agg (celA x a),.bool b]) W:=by
 have HS:=Aside0.mk hs
 have hsl:=blk_lt hs
 have hol:=blk_lt ho
 have oc0:W.cell? ⟨ob,0,none⟩=some (.bool b):=(blk_cell ho 0).trans rfl
 have rc0:W.cell? ⟨sb,0,none⟩=some (.int .i64 x.f0):=(blk_cell HS.out 0).trans rfl
 have rc1:W.cell? ⟨sb,1,none⟩=some (.string x.f1):=(blk_cell HS.out 1).trans rfl
 have rc2:W.cell? ⟨sb,2,none⟩=some (.slice a.a2 x.f2.length a.c2):=(blk_cell HS.out 2).trans rfl
 have rc3:W.cell? ⟨sb,3,none⟩=some (.string x.f3):=(blk_cell HS.out 3).trans rfl
 have rc4:W.cell? ⟨sb,4,none⟩=some (.slice a.a4 x.f4.length a.c4):=(blk_cell HS.out 4).trans rfl
 have rc5:W.cell? ⟨sb,5,none⟩=some (.slice a.a5 x.f5.length a.c5):=(blk_cell HS.out 5).trans rfl
 have rc6:W.cell? ⟨sb,6,none⟩=some (.slice a.a6 x.f6.length a.c6):=(blk_cell HS.out 6).trans rfl
 have rc7:W.cell? ⟨sb,7,none⟩=some (.slice a.a7 x.f7.length a.c7):=(blk_cell HS.out 7).trans rfl
 have rc8:W.cell? ⟨sb,8,none⟩=some (.string x.f8):=(blk_cell HS.out 8).trans rfl
 have rc9:W.cell? ⟨sb,9,none⟩=some (.bool x.f9):=(blk_cell HS.out 9).trans rfl
 have rc10:W.cell? ⟨sb,10,none⟩=some (.int .i64 x.f10):=(blk_cell HS.out 10).trans rfl
 clear hs ho
 simp [results,Tryz.results105,go_sem,h2,h3,celA,cells60,rc0,rc1,rc2,rc3,rc4,rc5,rc6,rc7,rc8,rc9,rc10,oc0,hsl,hol]
set_option maxHeartbeats 2000000 in
set_option maxRecDepth 100000 in
theorem read_out {w:World} {A:Option Addr} {c:Nat} {ts:List S32} (hC:k32.C w A ts.length ts) (hc:ts.length ≤ c) (he:Ends ts) {k:Nat} (hk:2 * ts.length + 1 ≤ k) (hn:ts.length ≤ 4001):Calls Tryz.prog 105 #[.slice A ts.length c] w (OutR w (Ps.read k ts)):=by
 obtain ⟨t,r,rfl⟩:=he.cons
 obtain ⟨ad,rfl,c0,c1,c2⟩:=at_T32 hC 0 (by omega) (by simp)
 simp only [rd_T32,List.getD_cons_zero,Int.toNat_zero,Nat.zero_mul,addr0] at c0
 clear c1 c2
 have HC0:=Aside0.mk c0
 have HR:=Aside0.mk (show RD w w.heap.size (w.heap.size + 1) (w.heap.size + 1 + 1) (t :: r) (((w.alloc (.cells (celA z60 {}) 60 (0,0))).alloc (.cells #[.bool false] 4 (0,0))).alloc (.cells #[.slice (some ad) (r.length + 1) c] 231 (0,0))) from RD.start hC hc he)
 clear c0 hC he
 go_enter_defers Tryz.func105,Tryz.ntmps105
 go_upto_region 3 with (fail)
 change Code.wp _ _ _ _ (((w.alloc (.cells (celA z60 {}) 60 (0,0))).alloc (.cells #[.bool false] 4 (0,0))).alloc (.cells #[.slice (some ad) (r.length + 1) c] 231 (0,0)))
 generalize hW:(((w.alloc (.cells (celA z60 {}) 60 (0,0))).alloc (.cells #[.bool false] 4 (0,0))).alloc (.cells #[.slice (some ad) (r.length + 1) c] 231 (0,0)))=W at HR ⊢
 generalize hg:w.heap.size + 1 + 1=g at HR ⊢
 generalize hob:w.heap.size + 1=ob at HR ⊢
 generalize hsb:w.heap.size=sb at HR ⊢
 clear hW hg hob hsb
 have c0:=pw_cell_below HR.out.below HC0.out
 have hal:=World.block_lt_of_cell? W _ c0
 have HS:=Aside0.mk HR.out.s
 have HO:=Aside0.mk HR.out.o
 have hso:=HR.out.o2
 have hog:=HR.out.o3
 have hws:=HR.out.o1
 have hsl:=blk_lt HS.out
 have hol:=blk_lt HO.out
 have hne:ob ≠ sb:=by omega
 have hne':sb ≠ ob:=by omega
 have hgn:g ≠ sb:=by omega
 have hgo:g ≠ ob:=by omega
 clear HC0
 by_cases k1:t.f0=1
 ·have b1:(t.f0 != 1)=false:=bne_eq_false_iff_eq.mpr k1
  cases hx:Ps.stmt k (t :: r) with
  | none =>
   have HX:=Aside0.mk hx
   have HM:=Aside0.mk (show Ps.read k (t :: r)=none by simp only [Ps.read,if_pos k1,hx])
   clear hx k1
   go_wp2_with (first | (go_at_call 179;refine (stmt_out HR.out.ps (k:=k) hk hn).mono ?_;intro e1 w1 ho;obtain ⟨hgr,rfl⟩:=ho.none HX.out;have HG:=Aside0.mk hgr;have HS1:=Aside0.mk (hgr.blk HS.out (by omega));have HO1:=Aside0.mk (hgr.blk HO.out (by omega));clear ho hgr))
   refine leaves_cons (f:=178) (args:=#[.pointer (some ⟨sb,0,none⟩),.pointer (some ⟨ob,0,none⟩)]) (by simp) (by simp [go_sem]) ?_
   refine (catch_failed sb ob hso w1 HS1.out HO1.out).mono ?_
   rintro e u' w2 ⟨rfl,rfl,hp⟩
   obtain ⟨p1,p2,p3,p4,p5,p6,p7⟩:=hp
   refine ⟨_,res105 (x:=z60) (a:={}) p6 p7 rfl rfl,?_,.agg (celA z60 {}),by rw [HM.out];rfl,by rw [HM.out];exact vst_zero _ _⟩
   have hbw:=HR.out.below
   have hgw:=HG.out
   exact ⟨p2.trans (hgw.os.trans hbw.os),p3.trans (hgw.tape.trans hbw.tape),p4.trans (hgw.output.trans hbw.output),Nat.le_trans hbw.size (Nat.le_trans hgw.size p1),fun i hi => by
    have hiW:i < W.heap.size:=Nat.lt_of_lt_of_le hi hbw.size
    have hi1:i < w1.heap.size:=Nat.lt_of_lt_of_le hiW hgw.size
    rw [p5 i hi1 (by omega) (by omega),hgw.block i hiW (by omega),hbw.block i hi]⟩
  | some x =>
   have HX:=Aside0.mk hx
   have HM:=Aside0.mk (show Ps.read k (t :: r)=some x by simp only [Ps.read,if_pos k1,hx])
   clear hx k1
   go_upto_region 5 with (fail)
   go_wp2_with (first | (go_at_call 179;refine (stmt_out HR.out.ps (k:=k) hk hn).mono ?_;intro e1 w1 ho;obtain ⟨hgr,v,rfl,hv⟩:=ho.some HX.out;obtain ⟨a,rfl,hf⟩:=hv;have HG:=Aside0.mk hgr;have HF:=Aside0.mk hf;have HS1:=Aside0.mk (hgr.blk HS.out (by omega));have HO1:=Aside0.mk (hgr.blk HO.out (by omega));clear ho hgr hf;have rc0:w1.cell? ⟨sb,0,none⟩=some (.int .i64 0):=(blk_cell HS1.out 0).trans rfl;have rc1:w1.cell? ⟨sb,1,none⟩=some (.string ⟨#[]⟩):=(blk_cell HS1.out 1).trans rfl;have rc2:w1.cell? ⟨sb,2,none⟩=some (.slice none 0 0):=(blk_cell HS1.out 2).trans rfl;have rc3:w1.cell? ⟨sb,3,none⟩=some (.string ⟨#[]⟩):=(blk_cell HS1.out 3).trans rfl;have rc4:w1.cell? ⟨sb,4,none⟩=some (.slice none 0 0):=(blk_cell HS1.out 4).trans rfl;have rc5:w1.cell? ⟨sb,5,none⟩=some (.slice none 0 0):=(blk_cell HS1.out 5).trans rfl;have rc6:w1.cell? ⟨sb,6,none⟩=some (.slice none 0 0):=(blk_cell HS1.out 6).trans rfl;have rc7:w1.cell? ⟨sb,7,none⟩=some (.slice none 0 0):=(blk_cell HS1.out 7).trans rfl;have rc8:w1.cell? ⟨sb,8,none⟩=some (.string ⟨#[]⟩):=(blk_cell HS1.out 8).trans rfl;have rc9:w1.cell? ⟨sb,9,none⟩=some (.bool false):=(blk_cell HS1.out 9).trans rfl;have rc10:w1.cell? ⟨sb,10,none⟩=some (.int .i64 0):=(blk_cell HS1.out 10).trans rfl;have rz0:=blk_frozen HS1.out 0;have rz1:=blk_frozen HS1.out 1;have rz2:=blk_frozen HS1.out 2;have rz3:=blk_frozen HS1.out 3;have rz4:=blk_frozen HS1.out 4;have rz5:=blk_frozen HS1.out 5;have rz6:=blk_frozen HS1.out 6;have rz7:=blk_frozen HS1.out 7;have rz8:=blk_frozen HS1.out 8;have rz9:=blk_frozen HS1.out 9;have rz10:=blk_frozen HS1.out 10;have oc0:w1.cell? ⟨ob,0,none⟩=some (.bool false):=(blk_cell HO1.out 0).trans rfl;have oz0:=blk_frozen HO1.out 0;unfold celA cells60))
   refine leaves_cons (f:=178) (args:=#[.pointer (some ⟨sb,0,none⟩),.pointer (some ⟨ob,0,none⟩)]) (by simp) (by simp [go_sem]) ?_
   refine (catch_idle _ _ _).mono ?_
   rintro e u' w2 ⟨rfl,rfl,rfl⟩
   have hbw:=HR.out.below
   have hgw:=HG.out
   have hWB:w.heap.size ≤ W.heap.size:=hbw.size
   have hb1:Below w.heap.size w w1:=⟨hgw.os.trans hbw.os,hgw.tape.trans hbw.tape,hgw.output.trans hbw.output,Nat.le_trans hbw.size hgw.size,fun i hi => by
    have hiW:i < W.heap.size:=Nat.lt_of_lt_of_le hi hbw.size
    rw [hgw.block i hiW (by omega),hbw.block i hi]⟩
   refine ⟨_,res105 (x:=x) (a:=a) (fill_s HS1.out hne' _ _ _ _ _ _ _ _ _ _ _ true) (fill_o HO1.out hne _ _ _ _ _ _ _ _ _ _ _ true) rfl rfl,fill_b hb1 (by omega) (by omega) _ _ _ _ _ _ _ _ _ _ _ true,.agg (celA x a),by rw [HM.out];rfl,?_⟩
   rw [HM.out]
   exact ⟨a,rfl,StF.mono (fill_f HF.out (by omega) (by omega) _ _ _ _ _ _ _ _ _ _ _ true) (fun q hq => Nat.le_trans hWB hq)⟩
 ·have b1:(t.f0 != 1)=true:=bne_iff_ne.mpr k1
  have HM:=Aside0.mk (show Ps.read k (t :: r)=none by simp only [Ps.read,if_neg k1])
  clear k1
  have rc0:W.cell? ⟨sb,0,none⟩=some (.int .i64 0):=(blk_cell HS.out 0).trans rfl
  have rc1:W.cell? ⟨sb,1,none⟩=some (.string ⟨#[]⟩):=(blk_cell HS.out 1).trans rfl
  have rc2:W.cell? ⟨sb,2,none⟩=some (.slice none 0 0):=(blk_cell HS.out 2).trans rfl
  have rc3:W.cell? ⟨sb,3,none⟩=some (.string ⟨#[]⟩):=(blk_cell HS.out 3).trans rfl
  have rc4:W.cell? ⟨sb,4,none⟩=some (.slice none 0 0):=(blk_cell HS.out 4).trans rfl
  have rc5:W.cell? ⟨sb,5,none⟩=some (.slice none 0 0):=(blk_cell HS.out 5).trans rfl
  have rc6:W.cell? ⟨sb,6,none⟩=some (.slice none 0 0):=(blk_cell HS.out 6).trans rfl
  have rc7:W.cell? ⟨sb,7,none⟩=some (.slice none 0 0):=(blk_cell HS.out 7).trans rfl
  have rc8:W.cell? ⟨sb,8,none⟩=some (.string ⟨#[]⟩):=(blk_cell HS.out 8).trans rfl
  have rc9:W.cell? ⟨sb,9,none⟩=some (.bool false):=(blk_cell HS.out 9).trans rfl
  have rc10:W.cell? ⟨sb,10,none⟩=some (.int .i64 0):=(blk_cell HS.out 10).trans rfl
  have rz0:=blk_frozen HS.out 0
  have rz1:=blk_frozen HS.out 1
  have rz2:=blk_frozen HS.out 2
  have rz3:=blk_frozen HS.out 3
  have rz4:=blk_frozen HS.out 4
  have rz5:=blk_frozen HS.out 5
  have rz6:=blk_frozen HS.out 6
  have rz7:=blk_frozen HS.out 7
  have rz8:=blk_frozen HS.out 8
  have rz9:=blk_frozen HS.out 9
  have rz10:=blk_frozen HS.out 10
  have oc0:W.cell? ⟨ob,0,none⟩=some (.bool false):=(blk_cell HO.out 0).trans rfl
  have oz0:=blk_frozen HO.out 0
  go_wp2
  refine leaves_cons (f:=178) (args:=#[.pointer (some ⟨sb,0,none⟩),.pointer (some ⟨ob,0,none⟩)]) (by simp) (by simp [go_sem]) ?_
  refine (catch_idle _ _ _).mono ?_
  rintro e u' w2 ⟨rfl,rfl,rfl⟩
  refine ⟨_,res105 (x:=z60) (a:={}) (fill_s HS.out hne' _ _ _ _ _ _ _ _ _ _ _ false) (fill_o HO.out hne _ _ _ _ _ _ _ _ _ _ _ false) rfl rfl,fill_b HR.out.below (by omega) (by omega) _ _ _ _ _ _ _ _ _ _ _ false,.agg (celA z60 {}),by rw [HM.out];rfl,by rw [HM.out];exact vst_zero _ _⟩
end Go.Proofs.YtcgdncpioafbdaaGreatDoor.Q
namespace Go.Proofs.YtcgdncpioafbdaaGreatDoor.Q
open Go Go.RowKit Go.Proofs.YtcgdncpioafbdaaGreatDoorW.PrintWords
theorem N_take0 {α:Type} {d:Kd α} {e n c:Nat} {w:World} {base:Nat} {ok:Nat → Prop} {A:Option Addr} {xs:List α} (h:Kd.N d e w base ok (.slice A n c) xs):Kd.N d e w base ok (.slice A 0 c) []:=by
 obtain ⟨h0,rows,hl,hR,hf⟩:=h
 have h1:=Kd.R_take hR (m:=0) (Nat.zero_le _)
 rw [List.take_zero] at h1
 have e1:(Value.slice A n c).ownBlock=(Value.slice A 0 c).ownBlock:=by cases A <;> rfl
 simp only [e1] at h0 h1
 exact ⟨h0,[],rfl,h1,fun j x c hx _ => by simp at hx⟩
theorem FK43z (w:World) (ok:Nat → Prop):Kd.FK k43 w ok ⟨⟨#[]⟩,⟨0,0,⟨#[]⟩⟩,⟨#[]⟩,[]⟩ ((.agg #[(.string ⟨#[]⟩),(.int .i64 0),(.int .i64 0),(.string ⟨#[]⟩),(.string ⟨#[]⟩),(.slice none 0 0)]):Value).cells.toList:=FK43 (A:=none) (c:=0) (Nat.le_refl _) (Kd.F_nil _ _ _)
set_option maxHeartbeats 2000000 in
set_option maxRecDepth 100000 in
theorem grow_nil {w:World} {n:Int} (h0:0 ≤ n) (hn:n ≤ 1000000):Calls Tryz.prog 272 #[.slice none 0 0,.int .i64 n] w fun e w' => ∃ v,e = .returned v∧Kd.N k43 43 w' w.heap.size (fun q => w.heap.size ≤ q) v []∧Below w.heap.size w w':=by
 have hw:wrap64 n=n:=by unfold wrap64;omega
 have b0:decide (n < 0)=false:=decide_eq_false (by omega)
 by_cases c:n=0
 ·subst c
  go_enter Tryz.func272,Tryz.ntmps272
  go_wp2
  go_ret
  exact ⟨_,rfl,Kd.N_nil _ _ _ _ _,Below.refl _ _⟩
 ·have b1:decide (0 < n)=true:=decide_eq_true (by omega)
  have b2:0 < n:=by omega
  have HO:=Aside0.mk (Kd.N_nil k43 43 w w.heap.size (fun q => w.heap.size ≤ q))
  go_enter Tryz.func272,Tryz.ntmps272
  go_wp2_with (first | ((with_reducible refine gate_builtin (b:=.append) (xs:=#[.tmp 20,.tmp 21]) rfl ?_);at_builtin;refine Kd.N_append_zeros k43 (w0:=w) w.heap.size rfl (.tmp 20) (.tmp 21) 41 3 43 (.agg #[(.string ⟨#[]⟩),(.int .i64 0),(.int .i64 0),(.string ⟨#[]⟩),(.string ⟨#[]⟩),(.slice none 0 0)]) 88 rfl Tryz.underlying41 Tryz.underlying3 info43 rfl (by decide) (by omega) (.slice none 0 0) [] ⟨⟨#[]⟩,⟨0,0,⟨#[]⟩⟩,⟨#[]⟩,[]⟩ n (fun q => w.heap.size ≤ q) rfl rfl (FK43z _ _) (fun _ h => h) HO.out h0 (Below.refl _ _) (Nat.le_refl _) (by simp;omega) ?_;intro v1 w1 ho hb hg hat;obtain ⟨A1,c1,rfl⟩:=Kd.N_slice ho;have HO1:=Aside0.mk ho;have HB1:=Aside0.mk hb;have hc1:=(Kd.N_reads' ho).2.1;clear ho hb hg hat))
  go_ret
  exact ⟨_,rfl,N_take0 HO1.out,HB1.out⟩
structure Two (w:World) (b:Nat) (A1:Option Addr) (c1:Nat) (l1:List S43) (A2:Option Addr) (c2:Nat) (l2:List S43):Prop where
 lt:b < w.heap.size
 c0:w.cell? ⟨b,0,none⟩=some (.slice A1 l1.length c1)
 c1:w.cell? ⟨b,1,none⟩=some (.slice A2 l2.length c2)
 f1:Kd.F k43 w (fun _ => True) A1 l1.length l1
 f2:Kd.F k43 w (fun _ => True) A2 l2.length l2
theorem F_old {α:Type} {d:Kd α} {w:World} {ok:Nat → Prop} {A:Option Addr} {n:Nat} {xs:List α} (h:Kd.F d w ok A n xs):Kd.F d w (fun q => q < w.heap.size) A n xs:=Kd.F_mono (Kd.F_bound h) (fun q hq => hq.2)
set_option maxHeartbeats 2000000 in
set_option maxRecDepth 100000 in
theorem concat_out {w:World} {b c:Nat} {A1:Option Addr} {k1:Nat} {l1:List S43} {A2:Option Addr} {k2:Nat} {l2:List S43} (h:Two w b A1 k1 l1 A2 k2 l2) (hc:2 ≤ c) (h1:l1.length ≤ 100000) (h2:l2.length ≤ 100000):Calls Tryz.prog 180 #[.slice (some ⟨b,0,none⟩) 2 c] w fun e w' => ∃ v,e = .returned v∧Kd.N k43 43 w' w.heap.size (fun _ => True) v (l1 ++ l2)∧Below w.heap.size w w':=by
 have HT:=Aside0.mk h
 have hlt:=h.lt
 have hc0:=h.c0
 have hc1:=h.c1
 clear h
 have hw1:wrap64 (0 + (l1.length:Int))=(l1.length:Int):=by unfold wrap64;omega
 have hw1':wrap64 (l1.length:Int)=(l1.length:Int):=by unfold wrap64;omega
 have hw2:wrap64 ((l1.length:Int) + (l2.length:Int))=(l1.length:Int) + (l2.length:Int):=by unfold wrap64;omega
 have d1:decide ((l1.length:Int) < 0)=false:=decide_eq_false (by omega)
 have d2:decide ((l1.length:Int) + (l2.length:Int) < 0)=false:=decide_eq_false (by omega)
 go_enter Tryz.func180,Tryz.ntmps180
 go_wp2
 go_loopg [3,11] 2 (fun kq v3 v11 w' => w=w'∧((kq=2∧v11 = .int .i64 0∧v3 = .int .i64 0) ∨ (kq=1∧v11 = .int .i64 1∧v3 = .int .i64 l1.length) ∨ (kq=0∧v11 = .int .i64 2∧v3 = .int .i64 ((l1.length:Int) + (l2.length:Int)))))
 case atStart => exact ⟨rfl,.inl ⟨rfl,rfl,rfl⟩⟩
 case round =>
  obtain ⟨rfl,⟨rfl,rfl,rfl⟩ | ⟨rfl,rfl,rfl⟩ | ⟨rfl,rfl,rfl⟩⟩:=hrel
  ·go_wp2
   go_roundg 1
   case measure => omega
   case rel => exact ⟨rfl,.inr (.inl ⟨rfl,rfl,rfl⟩)⟩
  ·go_wp2
   go_roundg 0
   case measure => omega
   case rel => exact ⟨rfl,.inr (.inr ⟨rfl,rfl,rfl⟩)⟩
  ·have HF1:=Aside0.mk (F_old HT.out.f1)
   have HF2:=Aside0.mk (F_old HT.out.f2)
   go_wp2_with (first | (go_at_call 272;refine (grow_nil (n:=(l1.length:Int) + (l2.length:Int)) (by omega) (by omega)).mono ?_;rintro e1 w1 ⟨v1,rfl,ho,hb⟩;have HO1:=Aside0.mk (Kd.N_mono ho (fun _ _ => trivial));have HB1:=Aside0.mk hb;clear ho hb))
   go_loopg [6,27] 2 (fun kq v6 v27 w' => Aside0 (Below w.heap.size w w')∧((kq=2∧v27 = .int .i64 0∧Aside0 (Kd.N k43 43 w' w.heap.size (fun _ => True) v6 [])) ∨ (kq=1∧v27 = .int .i64 1∧Aside0 (Kd.N k43 43 w' w.heap.size (fun _ => True) v6 l1)) ∨ (kq=0∧v27 = .int .i64 2∧Aside0 (Kd.N k43 43 w' w.heap.size (fun _ => True) v6 (l1 ++ l2)))))
   case atStart => exact ⟨HB1,.inl ⟨rfl,rfl,HO1⟩⟩
   case round =>
    clear HB1 HO1
    obtain ⟨HB,⟨rfl,rfl,HO⟩ | ⟨rfl,rfl,HO⟩ | ⟨rfl,rfl,HO⟩⟩:=hrel
    ·have c0:=pw_cell_below HB.out hc0
     have HF1:=Aside0.mk (Kd.F_step HF1.out (fun q hq _ => HB.out.block q hq))
     have hbl:b < wr.heap.size:=Nat.lt_of_lt_of_le hlt HB.out.size
     clear hc0 hc1
     go_wp2_with (first | ((with_reducible refine gate_builtin (b:=.append) (xs:=#[.tmp 31,.tmp 32]) rfl ?_);at_builtin;refine Kd.N_append_rows k43 (w0:=w) w.heap.size rfl (.tmp 31) (.tmp 32) 41 43 (.agg #[(.string ⟨#[]⟩),(.int .i64 0),(.int .i64 0),(.string ⟨#[]⟩),(.string ⟨#[]⟩),(.slice none 0 0)]) 88 rfl Tryz.underlying41 info43 rfl (by decide) (by omega) u6 [] l1 A1 l1.length _ (fun _ => True) (fun q => q < w.heap.size) rfl rfl HO.out HF1.out ?aP (fun _ _ => trivial) HB.out HB.out.size ?aL ?_;(case aP => exact fun q hq => ⟨trivial,fun he => by have:=Kd.N_base HO.out q he.symm;omega⟩);(case aL => first | omega | (simp;omega));intro v6 w6 ho hb hg hat;have HO6:=Aside0.mk ho;have HB6:=Aside0.mk hb;clear ho hb hg hat))
     go_roundg 1
     case measure => omega
     case rel => exact ⟨HB6,.inr (.inl ⟨rfl,rfl,HO6⟩)⟩
    ·have c1:=pw_cell_below HB.out hc1
     have HF2:=Aside0.mk (Kd.F_step HF2.out (fun q hq _ => HB.out.block q hq))
     have hbl:b < wr.heap.size:=Nat.lt_of_lt_of_le hlt HB.out.size
     clear hc0 hc1
     go_wp2_with (first | ((with_reducible refine gate_builtin (b:=.append) (xs:=#[.tmp 31,.tmp 32]) rfl ?_);at_builtin;refine Kd.N_append_rows k43 (w0:=w) w.heap.size rfl (.tmp 31) (.tmp 32) 41 43 (.agg #[(.string ⟨#[]⟩),(.int .i64 0),(.int .i64 0),(.string ⟨#[]⟩),(.string ⟨#[]⟩),(.slice none 0 0)]) 88 rfl Tryz.underlying41 info43 rfl (by decide) (by omega) u6 l1 l2 A2 l2.length _ (fun _ => True) (fun q => q < w.heap.size) rfl rfl HO.out HF2.out ?aP (fun _ _ => trivial) HB.out HB.out.size ?aL ?_;(case aP => exact fun q hq => ⟨trivial,fun he => by have:=Kd.N_base HO.out q he.symm;omega⟩);(case aL => first | omega | (simp;omega));intro v6 w6 ho hb hg hat;have HO6:=Aside0.mk ho;have HB6:=Aside0.mk hb;clear ho hb hg hat))
     go_roundg 0
     case measure => omega
     case rel => exact ⟨HB6,.inr (.inr ⟨rfl,rfl,HO6⟩)⟩
    ·go_wp2
     go_ret
     exact ⟨_,rfl,HO.out,HB.out⟩
end Go.Proofs.YtcgdncpioafbdaaGreatDoor.Q
namespace Go.Proofs.YtcgdncpioafbdaaGreatDoor.Q
open Go Go.RowKit Go.Proofs.YtcgdncpioafbdaaGreatDoorW.PrintWords
def deepB (x:S43):Bool:=decide (30 < dep x)
set_option maxHeartbeats 1000000 in
set_option maxRecDepth 100000 in
theorem deep_out {w:World} {x:S43} {A:Option Addr} {c:Nat} (hc:x.f3.length ≤ c) (hC:Kd.C k43 w A x.f3.length x.f3) (hf:fu x < 4611686018427387904):Calls Tryz.prog 181 #[.agg (cells43 x A c).toArray] w fun e w' => e = .returned (.bool (deepB x))∧Below w.heap.size w w':=by
 have HC:=Aside0.mk hC
 have HD:=Aside0.mk (Depth_is x hf (fu x) (Nat.le_refl _))
 have hd:decide (30 < (dep x:Int))=deepB x:=by unfold deepB;rw [decide_eq_decide];omega
 clear hC
 unfold cells43
 go_enter Tryz.func181,Tryz.ntmps181
 go_wp2_with (first | (go_at_call 43;refine (parse_Depth.calls _ _ _ _ _ _ A c x.f3 _ _ (Kd.C_below HC.out (below_alloc (Below.refl _ _) _)) hc HD.out).mono ?_;rintro e1 w1 ⟨rfl,hb⟩;have HB:=Aside0.mk hb;clear hb))
 go_ret
 exact ⟨rfl,below_step (below_alloc (Below.refl _ _) _) HB.out⟩
set_option maxHeartbeats 2000000 in
set_option maxRecDepth 100000 in
theorem index_out {w:World} {A:Option Addr} {c:Nat} {l:List S43} (hc:l.length ≤ c) (hC:Kd.C k43 w A l.length l) (hl:l.length < 4611686018427387904) (hf:∀ x ∈ l,fu x < 4611686018427387904):Calls Tryz.prog 225 #[.slice A l.length c,.func (.func 181) #[] #[]] w fun e w' => ∃ i:Int,e = .returned (.int .i64 i)∧decide (0 ≤ i)=l.any deepB∧Below w.heap.size w w':=by
 have HC:=Aside0.mk hC
 have HF:=Aside0.mk hf
 have HL:=Aside0.mk hl
 clear hC hf hl
 go_enter Tryz.func225,Tryz.ntmps225
 go_wp2
 go_loopg [8] l.length (fun kq v8 w' => ∃ j:Nat,v8 = .int .i64 (j:Int)∧Aside0 (j + kq=l.length)∧Aside0 ((l.take j).any deepB=false)∧Aside0 (Below w.heap.size w w'))
 case atStart => exact ⟨0,rfl,⟨by omega⟩,⟨by simp⟩,⟨Below.refl _ _⟩⟩
 case round =>
  obtain ⟨j,rfl,HJ,HN,HB⟩:=hrel
  have hjl:=HJ.out
  have hll:=HL.out
  cases gk with
  | zero =>
   have d0:decide ((j:Int) < (l.length:Int))=false:=decide_eq_false (by omega)
   have d1:decide (j < l.length)=false:=decide_eq_false (by omega)
   clear hjl hll
   go_wp2
   go_ret
   refine ⟨_,rfl,?_,HB.out⟩
   have h1:=HN.out
   rw [List.take_of_length_le (by have:=HJ.out;omega)] at h1
   rw [h1]
   rfl
  | succ k1 =>
   have d0:decide ((j:Int) < (l.length:Int))=true:=decide_eq_true (by omega)
   have d1:decide (j < l.length)=true:=decide_eq_true (by omega)
   have p1:0 ≤ (j:Int):=by omega
   have q1:(j:Int) < (l.length:Int):=by omega
   obtain ⟨ad,A5,c5,e5,x0,x1,x2,x3,x4,x5,hl5,hi5⟩:=at_T43 (Kd.C_below HC.out HB.out) (j:Int) p1 q1
   cases e5
   have hjn:j < l.length:=by omega
   have hrd:rd_T43 l (j:Int)=l[j]:=by
    unfold rd_T43
    rw [Int.toNat_natCast,List.getD_eq_getElem?_getD,List.getElem?_eq_getElem hjn]
    rfl
   obtain ⟨x,hx⟩:∃ x,rd_T43 l (j:Int)=x:=⟨_,rfl⟩
   rw [hx] at x0 x1 x2 x3 x4 x5 hl5 hi5
   simp only [Int.toNat_natCast] at x0 x1 x2 x3 x4 x5
   have HI:=Aside0.mk hi5
   have HX:=Aside0.mk (hx.symm.trans hrd)
   have hw1:wrap64 ((j:Int) + 1)=((j + 1:Nat):Int):=by unfold wrap64;omega
   have HFX:=Aside0.mk (HF.out x (by rw [HX.out];exact List.getElem_mem _))
   have HTK:=Aside0.mk (show (l.take (j + 1)).any deepB=deepB x by rw [List.take_add_one,List.any_append,HN.out,List.getElem?_eq_getElem hjn,← HX.out];simp)
   replace p1:=eq_true p1
   replace q1:=eq_true q1
   clear hi5 hx hrd hjl hll
   cases hd:deepB x with
   | true =>
    have HD:=Aside0.mk hd
    clear hd
    go_wp2_with (first | (go_at_call 181;refine (deep_out (x:=x) (A:=A5) (c:=c5) hl5 HI.out HFX.out).mono ?_;rintro e1 w1 ⟨rfl,hb⟩;have HB1:=Aside0.mk hb;clear hb;rw [HD.out]))
    go_ret
    refine ⟨_,rfl,?_,below_step HB.out HB1.out⟩
    have h1:l.any deepB=true:=by
     have h2:=HTK.out
     rw [HD.out] at h2
     rw [← List.take_append_drop (j + 1) l,List.any_append,h2]
     rfl
    rw [h1]
    exact decide_eq_true (by omega)
   | false =>
    have HD:=Aside0.mk hd
    clear hd
    go_wp2_with (first | (go_at_call 181;refine (deep_out (x:=x) (A:=A5) (c:=c5) hl5 HI.out HFX.out).mono ?_;rintro e1 w1 ⟨rfl,hb⟩;have HB1:=Aside0.mk hb;clear hb;rw [HD.out]))
    go_roundg k1
    case measure => omega
    case rel => exact ⟨j + 1,by rw [hw1],⟨by have:=HJ.out;omega⟩,⟨by rw [HTK.out,HD.out]⟩,⟨below_step HB.out HB1.out⟩⟩
set_option maxHeartbeats 1000000 in
set_option maxRecDepth 100000 in
theorem contains_out {w:World} {A:Option Addr} {c:Nat} {l:List S43} (hc:l.length ≤ c) (hC:Kd.C k43 w A l.length l) (hl:l.length < 4611686018427387904) (hf:∀ x ∈ l,fu x < 4611686018427387904):Calls Tryz.prog 146 #[.slice A l.length c,.func (.func 181) #[] #[]] w fun e w' => e = .returned (.bool (l.any deepB))∧Below w.heap.size w w':=by
 have HC:=Aside0.mk hC
 have HF:=Aside0.mk hf
 clear hC hf
 go_enter Tryz.func146,Tryz.ntmps146
 go_wp2_with (first | (go_at_call 225;refine (index_out hc HC.out hl HF.out).mono ?_;rintro e1 w1 ⟨i,rfl,hd,hb⟩;have HD:=Aside0.mk hd;have HB:=Aside0.mk hb;clear hd hb))
 go_ret
 refine ⟨?_,HB.out⟩
 rw [← HD.out]
 rfl
end Go.Proofs.YtcgdncpioafbdaaGreatDoor.Q
namespace Go.Proofs.YtcgdncpioafbdaaGreatDoor.Q
open Go Go.RowKit Go.Proofs.YtcgdncpioafbdaaGreatDoorW.PrintWords
def allE (x:S60):List S43:=x.f5 ++ x.f7 ++ x.f4.flatten ++ x.f6.map (·.f1)
def longB (x:S60):Bool:=x.f4.any (fun r => decide (20 < r.length)) || decide (16 < x.f2.length) || decide (50 < x.f4.length) || decide (20 < x.f5.length) || decide (20 < x.f6.length) || (allE x).any deepB
structure Mod (x:S60):Prop where
 n2:x.f2.length ≤ 100000
 n4:x.f4.length ≤ 100000
 n5:x.f5.length ≤ 100000
 n6:x.f6.length ≤ 100000
 n7:x.f7.length ≤ 100000
 fu:∀ e ∈ allE x,fu e < 4611686018427387904
theorem row_at {w:World} {ok:Nat → Prop} {A:Option Addr} {ls:List (List S43)} (h:Kd.F (Kd.slice 43 k43) w ok A ls.length ls) (j:Nat) (hj:j < ls.length):∃ ad A0 c0,A=some ad∧w.cell? (ad.add j)=some (.slice A0 ls[j].length c0)∧ls[j].length ≤ c0∧Kd.F k43 w ok A0 ls[j].length ls[j]:=by
 obtain ⟨ad,c,e,_,hK,hc0,_⟩:=Kd.F_get h ([]:List S43) (j:Int) (by omega) (by omega)
 have hrd:ls.getD (j:Int).toNat ([]:List S43)=ls[j]:=by rw [Int.toNat_natCast,List.getD_eq_getElem?_getD,List.getElem?_eq_getElem hj];rfl
 rw [hrd] at hK
 have hc:∀ i u,c[i]? = some u → w.cell? (ad.add (j * 1 + i))=some u:=hc0
 obtain ⟨A0,c0,rfl,l0,g0⟩:=Kd.FK_slice_open hK
 exact ⟨ad,A0,c0,e,by have hq:=hc 0 _ rfl;rwa [Nat.mul_one,Nat.add_zero] at hq,l0,g0⟩
theorem set_at {w:World} {ok:Nat → Prop} {A:Option Addr} {xs:List S90} (h:Kd.F k90 w ok A xs.length xs) (j:Nat) (hj:j < xs.length):∃ ad A0 c0,A=some ad∧w.cell? (ad.add (j * 7))=some (.string xs[j].f0)∧w.cell? ⟨(ad.add (j * 7)).block,(ad.add (j * 7)).off + 1,none⟩=some (.string xs[j].f1.f0)∧w.cell? ⟨(ad.add (j * 7)).block,(ad.add (j * 7)).off + 2,none⟩=some (.int .i64 xs[j].f1.f1.f0)∧w.cell? ⟨(ad.add (j * 7)).block,(ad.add (j * 7)).off + 3,none⟩=some (.int .i64 xs[j].f1.f1.f1)∧w.cell? ⟨(ad.add (j * 7)).block,(ad.add (j * 7)).off + 4,none⟩=some (.string xs[j].f1.f1.f2)∧w.cell? ⟨(ad.add (j * 7)).block,(ad.add (j * 7)).off + 5,none⟩=some (.string xs[j].f1.f2)∧w.cell? ⟨(ad.add (j * 7)).block,(ad.add (j * 7)).off + 6,none⟩=some (.slice A0 xs[j].f1.f3.length c0)∧xs[j].f1.f3.length ≤ c0∧Kd.F k43 w ok A0 xs[j].f1.f3.length xs[j].f1.f3:=by
 obtain ⟨ad,c,e,_,hK,hc0,_⟩:=Kd.F_get h z90 (j:Int) (by omega) (by omega)
 have hrd:xs.getD (j:Int).toNat z90=xs[j]:=by rw [Int.toNat_natCast,List.getD_eq_getElem?_getD,List.getElem?_eq_getElem hj];rfl
 rw [hrd] at hK
 have hc:∀ i u,c[i]? = some u → w.cell? (ad.add (j * 7 + i))=some u:=hc0
 obtain ⟨A0,c0,rfl,l0,g0⟩:=k90_openF hK
 exact ⟨ad,A0,c0,e,hc 0 _ rfl,by rw [← add_field _ _ 1 (by omega)];exact hc 1 _ rfl,by rw [← add_field _ _ 2 (by omega)];exact hc 2 _ rfl,by rw [← add_field _ _ 3 (by omega)];exact hc 3 _ rfl,by rw [← add_field _ _ 4 (by omega)];exact hc 4 _ rfl,by rw [← add_field _ _ 5 (by omega)];exact hc 5 _ rfl,by rw [← add_field _ _ 6 (by omega)];exact hc 6 _ rfl,l0,g0⟩
set_option maxHeartbeats 4000000 in
set_option maxRecDepth 100000 in
theorem long_out {w0:World} {x:S60} {a:Ads} (hF:StA (fun _ => True) w0 x a) (hm:Mod x):Calls Tryz.prog 106 #[.agg (celA x a)] w0 fun e w' => e = .returned (.bool (longB x))∧Below w0.heap.size w0 w':=by
 obtain ⟨A2,C2,A4,C4,A5,C5,A6,C6,A7,C7⟩:=a
 have HF0:=Aside0.mk hF
 have HM:=Aside0.mk hm
 clear hF hm
 go_enter Tryz.func106,Tryz.ntmps106
 go_upto_region 1 with (fail)
 have BX0:=Aside0.mk (new_blk (W:=w0) (.cells (celA x ⟨A2,C2,A4,C4,A5,C5,A6,C6,A7,C7⟩) 60 (0,0)) rfl)
 have HBW:=Aside0.mk (below_alloc (Below.refl w0.heap.size w0) (.cells (celA x ⟨A2,C2,A4,C4,A5,C5,A6,C6,A7,C7⟩) 60 (0,0)))
 generalize hxb:w0.heap.size=xb at BX0 ⊢
 have hxl:xb < (w0.alloc (.cells (celA x ⟨A2,C2,A4,C4,A5,C5,A6,C6,A7,C7⟩) 60 (0,0))).heap.size:=blk_lt BX0.out
 have HF:Aside0 (StA (fun _ => True) (w0.alloc (.cells (celA x ⟨A2,C2,A4,C4,A5,C5,A6,C6,A7,C7⟩) 60 (0,0))) x ⟨A2,C2,A4,C4,A5,C5,A6,C6,A7,C7⟩):=⟨⟨HF0.out.l2,Kd.F_alloc HF0.out.f2 _,HF0.out.l4,Kd.F_alloc HF0.out.f4 _,HF0.out.l5,Kd.F_alloc HF0.out.f5 _,HF0.out.l6,Kd.F_alloc HF0.out.f6 _,HF0.out.l7,Kd.F_alloc HF0.out.f7 _⟩⟩
 clear HF0
 generalize hW:w0.alloc (.cells (celA x ⟨A2,C2,A4,C4,A5,C5,A6,C6,A7,C7⟩) 60 (0,0))=w at BX0 HBW HF hxl ⊢
 clear hW
 have r2:w.cell? ⟨xb,2,none⟩=some (.slice A2 x.f2.length C2):=(blk_cell BX0.out 2).trans rfl
 have r4:w.cell? ⟨xb,4,none⟩=some (.slice A4 x.f4.length C4):=(blk_cell BX0.out 4).trans rfl
 have r5:w.cell? ⟨xb,5,none⟩=some (.slice A5 x.f5.length C5):=(blk_cell BX0.out 5).trans rfl
 have r6:w.cell? ⟨xb,6,none⟩=some (.slice A6 x.f6.length C6):=(blk_cell BX0.out 6).trans rfl
 have r7:w.cell? ⟨xb,7,none⟩=some (.slice A7 x.f7.length C7):=(blk_cell BX0.out 7).trans rfl
 have hz:=hxl
 have HFO:=Aside0.mk (F_old HF.out.f4)
 have HF6:=Aside0.mk (F_old HF.out.f6)
 go_upto_region 2 with (first | (go_at_call 180;refine (concat_out (w:=w.alloc (.cells #[.slice A5 x.f5.length C5,.slice A7 x.f7.length C7] 41 (0,0))) (A1:=A5) (k1:=C5) (l1:=x.f5) (A2:=A7) (k2:=C7) (l2:=x.f7) ⟨blk_lt (new_blk _ rfl),(blk_cell (new_blk _ rfl) 0).trans rfl,(blk_cell (new_blk _ rfl) 1).trans rfl,Kd.F_alloc HF.out.f5 _,Kd.F_alloc HF.out.f7 _⟩ (Nat.le_refl _) HM.out.n5 HM.out.n7).mono ?_;rintro e1 w1 ⟨v1,rfl,ho,hb⟩;have HO1:=Aside0.mk (Kd.N_lower ho (base':=w.heap.size) (by simp));have HB1:=Aside0.mk (below_step (below_alloc (Below.refl _ _) _) hb);clear ho hb))
 have BX1:=Aside0.mk ((HB1.out.block xb hxl).trans BX0.out)
 have t4:w1.cell? ⟨xb,4,none⟩=some (.slice A4 x.f4.length C4):=(blk_cell BX1.out 4).trans rfl
 have hz1:=blk_lt BX1.out
 go_wp2
 go_loopg [3,18] x.f4.length (fun kq v3 v18 w' => ∃ (j:Nat) (acc:List S43),v18 = .int .i64 (j:Int)∧Aside0 (j + kq=x.f4.length)∧Aside0 (acc=x.f5 ++ x.f7 ++ (x.f4.take j).flatten)∧Aside0 (acc.length ≤ 200000 + 20 * j)∧Aside0 ((x.f4.take j).any (fun r => decide (20 < r.length))=false)∧Aside0 (Kd.N k43 43 w' w.heap.size (fun _ => True) v3 acc)∧Aside0 (Below w.heap.size w w'))
 case atStart => exact ⟨0,x.f5 ++ x.f7,rfl,⟨by omega⟩,⟨by simp⟩,⟨by have:=HM.out.n5;have:=HM.out.n7;simp;omega⟩,⟨by simp⟩,HO1,HB1⟩
 case round =>
  clear HO1 HB1
  obtain ⟨j,acc,rfl,HJ,HA,HAL,HN,HO,HB⟩:=hrel
  have hjl:=HJ.out
  have hll:=HM.out.n4
  cases gk with
  | zero =>
   have d0:decide (j < x.f4.length)=false:=decide_eq_false (by omega)
   have d0i:decide ((j:Int) < (x.f4.length:Int))=false:=decide_eq_false (by omega)
   have BX:=Aside0.mk ((HB.out.block xb hxl).trans BX0.out)
   clear hjl hll
   have hNl:=HN.out
   rw [List.take_of_length_le (by have:=HJ.out;omega)] at hNl
   have HN1:=Aside0.mk hNl
   have hAe:=HA.out
   rw [List.take_of_length_le (by have:=HJ.out;omega)] at hAe
   have HA1:=Aside0.mk hAe
   have HAL1:=Aside0.mk (show acc.length ≤ 3000000 by have:=HAL.out;have:=HM.out.n4;have:=HJ.out;omega)
   clear hNl hAe HN HA HAL
   go_upto_region 9 with (fail)
   have BX9:=Aside0.mk ((HB.out.block xb hxl).trans BX0.out)
   have s6:wr.cell? ⟨xb,6,none⟩=some (.slice A6 x.f6.length C6):=(blk_cell BX9.out 6).trans rfl
   have hz9:=blk_lt BX9.out
   obtain ⟨acc0,hacc0⟩:∃ y,y=acc:=⟨_,rfl⟩
   rw [← hacc0] at HA1 HAL1 HO
   clear hacc0
   go_wp2
   go_loopg [3,32] x.f6.length (fun kq v3 v32 w' => ∃ (j:Nat) (acc:List S43),v32 = .int .i64 (j:Int)∧Aside0 (j + kq=x.f6.length)∧Aside0 (acc=x.f5 ++ x.f7 ++ x.f4.flatten ++ (x.f6.take j).map (·.f1))∧Aside0 (acc.length ≤ 3000000 + j)∧Aside0 (Kd.N k43 43 w' w.heap.size (fun _ => True) v3 acc)∧Aside0 (Below w.heap.size w w'))
   case atStart => exact ⟨0,acc0,rfl,⟨by omega⟩,⟨by rw [HA1.out];simp⟩,⟨HAL1.out⟩,HO,HB⟩
   case round =>
    clear HO HB HA1 HAL1 BX9
    obtain ⟨j,acc,rfl,HJ,HA,HAL,HO,HB⟩:=hrel
    have hjl:=HJ.out
    have hll:=HM.out.n6
    cases gk with
    | zero =>
     have d0:decide (j < x.f6.length)=false:=decide_eq_false (by omega)
     have d0i:decide ((j:Int) < (x.f6.length:Int))=false:=decide_eq_false (by omega)
     have hAe:=HA.out
     rw [List.take_of_length_le (by omega)] at hAe
     have HAE:Aside0 (acc=allE x):=⟨hAe⟩
     have HLE:acc.length ≤ 3100000:=by have:=HAL.out;omega
     clear hjl hll hAe
     have BX:=Aside0.mk ((HB.out.block xb hxl).trans BX0.out)
     have y2:wr.cell? ⟨xb,2,none⟩=some (.slice A2 x.f2.length C2):=(blk_cell BX.out 2).trans rfl
     have y4:wr.cell? ⟨xb,4,none⟩=some (.slice A4 x.f4.length C4):=(blk_cell BX.out 4).trans rfl
     have y5:wr.cell? ⟨xb,5,none⟩=some (.slice A5 x.f5.length C5):=(blk_cell BX.out 5).trans rfl
     have y6:wr.cell? ⟨xb,6,none⟩=some (.slice A6 x.f6.length C6):=(blk_cell BX.out 6).trans rfl
     have hzz:=blk_lt BX.out
     have HOF:=Aside0.mk (Kd.N_reads HO.out)
     obtain ⟨A9,c9,rfl,hc9,hC9⟩:=HOF.out
     have HC9:=Aside0.mk hC9
     clear hC9
     go_upto_region 15 with (fail)
     by_cases q2:16 < x.f2.length
     ·replace q2:=q2
      have q2t:=q2
      have q2d:decide (16 < x.f2.length)=true:=decide_eq_true (by omega)
      have q2di:decide ((16:Int) < (x.f2.length:Int))=true:=decide_eq_true (by omega)
      clear q2
      go_wp2
      go_ret
      refine ⟨?_,below_step HBW.out HB.out⟩
      rw [show longB x=true by unfold longB;rw [HN1.out,q2d];simp]
      rfl
     ·have q2d:decide (16 < x.f2.length)=false:=decide_eq_false (by omega)
      have q2di:decide ((16:Int) < (x.f2.length:Int))=false:=decide_eq_false (by omega)
      clear q2
      have q2:=q2d
      by_cases q4:50 < x.f4.length
      ·replace q4:=q4
       have q4t:=q4
       have q4d:decide (50 < x.f4.length)=true:=decide_eq_true (by omega)
       have q4di:decide ((50:Int) < (x.f4.length:Int))=true:=decide_eq_true (by omega)
       clear q4
       go_wp2
       go_ret
       refine ⟨?_,below_step HBW.out HB.out⟩
       rw [show longB x=true by unfold longB;rw [HN1.out,q2,q4d];simp]
       rfl
      ·have q4d:decide (50 < x.f4.length)=false:=decide_eq_false (by omega)
       have q4di:decide ((50:Int) < (x.f4.length:Int))=false:=decide_eq_false (by omega)
       clear q4
       have q4:=q4d
       by_cases q5:20 < x.f5.length
       ·replace q5:=q5
        have q5t:=q5
        have q5d:decide (20 < x.f5.length)=true:=decide_eq_true (by omega)
        have q5di:decide ((20:Int) < (x.f5.length:Int))=true:=decide_eq_true (by omega)
        clear q5
        go_wp2
        go_ret
        refine ⟨?_,below_step HBW.out HB.out⟩
        rw [show longB x=true by unfold longB;rw [HN1.out,q2,q4,q5d];simp]
        rfl
       ·have q5d:decide (20 < x.f5.length)=false:=decide_eq_false (by omega)
        have q5di:decide ((20:Int) < (x.f5.length:Int))=false:=decide_eq_false (by omega)
        clear q5
        have q5:=q5d
        by_cases q6:20 < x.f6.length
        ·replace q6:=q6
         have q6t:=q6
         have q6d:decide (20 < x.f6.length)=true:=decide_eq_true (by omega)
         have q6di:decide ((20:Int) < (x.f6.length:Int))=true:=decide_eq_true (by omega)
         clear q6
         go_wp2
         go_ret
         refine ⟨?_,below_step HBW.out HB.out⟩
         rw [show longB x=true by unfold longB;rw [HN1.out,q2,q4,q5,q6d];simp]
         rfl
        ·have q6d:decide (20 < x.f6.length)=false:=decide_eq_false (by omega)
         have q6di:decide ((20:Int) < (x.f6.length:Int))=false:=decide_eq_false (by omega)
         clear q6
         have q6:=q6d
         go_wp2_with (first | (go_at_call 146;refine (contains_out (l:=acc) hc9 HC9.out (by omega) (fun e he => HM.out.fu e (HAE.out ▸ he))).mono ?_;rintro e9 w9 ⟨rfl,hb⟩;have HB9:=Aside0.mk hb;clear hb))
         go_ret
         refine ⟨?_,below_step HBW.out (below_step HB.out HB9.out)⟩
         rw [show longB x=acc.any deepB by unfold longB;rw [HN1.out,q2,q4,q5,q6,HAE.out];simp]
         rfl
    | succ k1 =>
     have d0:decide (j < x.f6.length)=true:=decide_eq_true (by omega)
     have d0i:decide ((j:Int) < (x.f6.length:Int))=true:=decide_eq_true (by omega)
     have p1:0 ≤ (j:Int):=by omega
     have q1:(j:Int) < (x.f6.length:Int):=by omega
     have q2:j < x.f6.length:=by omega
     obtain ⟨ad,A0,c0,e0,x0,x1,x2,x3,x4,x5,x6,hl0,hf0⟩:=set_at (Kd.F_step HF6.out (fun q hq _ => HB.out.block q hq)) j q2
     cases e0
     obtain ⟨S,hS⟩:∃ S,x.f6[j]=S:=⟨_,rfl⟩
     rw [hS] at x0 x1 x2 x3 x4 x5 x6 hl0 hf0
     have HR0:=Aside0.mk hf0
     have hw1:wrap64 ((j:Int) + 1)=((j + 1:Nat):Int):=by unfold wrap64;omega
     have HTK:=Aside0.mk (show x.f6.take (j + 1)=x.f6.take j ++ [S] by rw [List.take_add_one,List.getElem?_eq_getElem q2,hS];rfl)
     replace p1:=eq_true p1
     replace q1:=eq_true q1
     clear hf0 hS hjl hll
     go_upto_region 12 with (fail)
     have BS:=Aside0.mk (new_blk (W:=wr) (.cells #[.string S.f0,.string S.f1.f0,.int .i64 S.f1.f1.f0,.int .i64 S.f1.f1.f1,.string S.f1.f1.f2,.string S.f1.f2,.slice A0 S.f1.f3.length c0] 90 (0,0)) rfl)
     have HOW:=Aside0.mk (Kd.N_alloc HO.out (.cells #[.string S.f0,.string S.f1.f0,.int .i64 S.f1.f1.f0,.int .i64 S.f1.f1.f1,.string S.f1.f1.f2,.string S.f1.f2,.slice A0 S.f1.f3.length c0] 90 (0,0)))
     have HBW2:=Aside0.mk (below_alloc HB.out (.cells #[.string S.f0,.string S.f1.f0,.int .i64 S.f1.f1.f0,.int .i64 S.f1.f1.f1,.string S.f1.f1.f2,.string S.f1.f2,.slice A0 S.f1.f3.length c0] 90 (0,0)))
     have HR:=Aside0.mk (FK43 hl0 (Kd.F_alloc HR0.out (.cells #[.string S.f0,.string S.f1.f0,.int .i64 S.f1.f1.f0,.int .i64 S.f1.f1.f1,.string S.f1.f1.f2,.string S.f1.f2,.slice A0 S.f1.f3.length c0] 90 (0,0))))
     generalize hsb:wr.heap.size=sb at BS ⊢
     generalize hW:wr.alloc (.cells #[.string S.f0,.string S.f1.f0,.int .i64 S.f1.f1.f0,.int .i64 S.f1.f1.f1,.string S.f1.f1.f2,.string S.f1.f2,.slice A0 S.f1.f3.length c0] 90 (0,0))=W at BS HOW HBW2 HR ⊢
     clear hsb hW
     have z0:W.cell? ⟨sb,0,none⟩=some (.string S.f0):=(blk_cell BS.out 0).trans rfl
     have z1:W.cell? ⟨sb,1,none⟩=some (.string S.f1.f0):=(blk_cell BS.out 1).trans rfl
     have z2:W.cell? ⟨sb,2,none⟩=some (.int .i64 S.f1.f1.f0):=(blk_cell BS.out 2).trans rfl
     have z3:W.cell? ⟨sb,3,none⟩=some (.int .i64 S.f1.f1.f1):=(blk_cell BS.out 3).trans rfl
     have z4:W.cell? ⟨sb,4,none⟩=some (.string S.f1.f1.f2):=(blk_cell BS.out 4).trans rfl
     have z5:W.cell? ⟨sb,5,none⟩=some (.string S.f1.f2):=(blk_cell BS.out 5).trans rfl
     have z6:W.cell? ⟨sb,6,none⟩=some (.slice A0 S.f1.f3.length c0):=(blk_cell BS.out 6).trans rfl
     have hsW:=blk_lt BS.out
     go_wp2_with (first | ((with_reducible refine gate_builtin (b:=.append) (xs:=#[.tmp 36,.tmp 39]) rfl ?_);at_builtin;refine Kd.N_append k43 (w0:=w) w.heap.size rfl (.tmp 36) (.tmp 39) 41 43 (.agg #[(.string ⟨#[]⟩),(.int .i64 0),(.int .i64 0),(.string ⟨#[]⟩),(.string ⟨#[]⟩),(.slice none 0 0)]) 88 rfl Tryz.underlying41 info43 rfl (by decide) (by omega) u3 acc S.f1 (cells43 S.f1 A0 c0) (fun _ => True) (fun q => q < w.heap.size) rfl rfl HR.out ?aP (fun _ _ => trivial) HOW.out HBW2.out HBW2.out.size ?aL ?_;(case aP => exact fun q hq => ⟨trivial,fun he => by have:=Kd.N_base HOW.out q he.symm;omega⟩);(case aL => have:=HAL.out;have:=HJ.out;have:=HM.out.n6;omega);intro v6 w6 ho hb hg hat;have HO6:=Aside0.mk ho;have HB6:=Aside0.mk hb;clear ho hb hg hat))
     go_roundg k1
     case measure => omega
     case rel => exact ⟨j + 1,acc ++ [S.f1],by rw [hw1],⟨by have:=HJ.out;omega⟩,⟨by rw [HTK.out,HA.out];simp⟩,⟨by have:=HAL.out;simp;omega⟩,HO6,HB6⟩
  | succ k1 =>
   have d0:decide (j < x.f4.length)=true:=decide_eq_true (by omega)
   have d0i:decide ((j:Int) < (x.f4.length:Int))=true:=decide_eq_true (by omega)
   have p1:0 ≤ (j:Int):=by omega
   have q1:(j:Int) < (x.f4.length:Int):=by omega
   have q2:j < x.f4.length:=by omega
   obtain ⟨ad,A0,c0,e0,x0,hl0,hf0⟩:=row_at (Kd.F_step HFO.out (fun q hq _ => HB.out.block q hq)) j q2
   cases e0
   obtain ⟨R,hR⟩:∃ R,x.f4[j]=R:=⟨_,rfl⟩
   rw [hR] at x0 hl0 hf0
   have HR:=Aside0.mk hf0
   have HRE:=Aside0.mk hR
   have hw1:wrap64 ((j:Int) + 1)=((j + 1:Nat):Int):=by unfold wrap64;omega
   have HTK:=Aside0.mk (show x.f4.take (j + 1)=x.f4.take j ++ [R] by rw [List.take_add_one,List.getElem?_eq_getElem q2,hR];rfl)
   replace p1:=eq_true p1
   replace q1:=eq_true q1
   clear hf0 hR
   by_cases hb20:20 < R.length
   ·have d2:decide (20 < R.length)=true:=decide_eq_true (by omega)
    have d2i:decide ((20:Int) < (R.length:Int))=true:=decide_eq_true (by omega)
    have HRL:=Aside0.mk hb20
    clear hb20 hjl hll
    go_wp2
    go_ret
    refine ⟨?_,below_step HBW.out HB.out⟩
    have h1:x.f4.any (fun r => decide (20 < r.length))=true:=by
     rw [← List.take_append_drop (j + 1) x.f4,List.any_append,HTK.out,List.any_append]
     simp [HRL.out]
    have h2:longB x=true:=by unfold longB;rw [h1];simp only [Bool.true_or]
    rw [h2]
    rfl
   ·have d2:decide (20 < R.length)=false:=decide_eq_false (by omega)
    have d2i:decide ((20:Int) < (R.length:Int))=false:=decide_eq_false (by omega)
    have HRL:=Aside0.mk hb20
    clear hb20 hjl hll
    go_wp2_with (first | ((with_reducible refine gate_builtin (b:=.append) (xs:=#[.tmp 25,.tmp 26]) rfl ?_);at_builtin;refine Kd.N_append_rows k43 (w0:=w) w.heap.size rfl (.tmp 25) (.tmp 26) 41 43 (.agg #[(.string ⟨#[]⟩),(.int .i64 0),(.int .i64 0),(.string ⟨#[]⟩),(.string ⟨#[]⟩),(.slice none 0 0)]) 88 rfl Tryz.underlying41 info43 rfl (by decide) (by omega) u3 acc R A0 R.length c0 (fun _ => True) (fun q => q < w.heap.size) rfl rfl HO.out HR.out ?aP (fun _ _ => trivial) HB.out HB.out.size ?aL ?_;(case aP => exact fun q hq => ⟨trivial,fun he => by have:=Kd.N_base HO.out q he.symm;omega⟩);(case aL => have:=HAL.out;have:=HRL.out;have:=HJ.out;have:=HM.out.n4;omega);intro v6 w6 ho hb hg hat;have HO6:=Aside0.mk ho;have HB6:=Aside0.mk hb;clear ho hb hg hat))
    go_roundg k1
    case measure => omega
    case rel => exact ⟨j + 1,acc ++ R,by rw [hw1],⟨by have:=HJ.out;omega⟩,⟨by rw [HTK.out,HA.out];simp⟩,⟨by have:=HAL.out;have:=HRL.out;simp;omega⟩,⟨by rw [HTK.out,List.any_append,HN.out];first | (simp [HRL.out];done) | (simp [HRL.out];have:=HRL.out;omega)⟩,HO6,HB6⟩
end Go.Proofs.YtcgdncpioafbdaaGreatDoor.Q
namespace Go.Proofs.YtcgdncpioafbdaaGreatDoor.Q
open Go Go.RowKit Go.Maps Go.Proofs.YtcgdncpioafbdaaGreatDoorW.PrintWords
def nmapF (D:DataW Unit) (l:List ByteArray):DataW Unit:=l.foldl (fun D s => D.put (.string s.data.toList) (.lit (.bool true))) D
def nmap (l:List ByteArray):DataW Unit:=nmapF (.map []) l
def namesOf (x:S60):List ByteArray:=x.f2.map (·.f0) ++ x.f6.map (·.f0)
def twiceB (x:S60):Bool:=decide (Maps.size (nmap (namesOf x)) < x.f2.length + x.f6.length)
theorem nmap_snoc (l:List ByteArray) (s:ByteArray):nmap (l ++ [s])=(nmap l).put (.string s.data.toList) (.lit (.bool true)):=by unfold nmap nmapF;rw [List.foldl_append];rfl
theorem law9:Keyed Tryz.prog 9:=string_keyed Tryz.underlying9
theorem col_at {w:World} {ok:Nat → Prop} {A:Option Addr} {xs:List S128} (h:Kd.F k128 w ok A xs.length xs) (j:Nat) (hj:j < xs.length):∃ ad,A=some ad∧w.cell? (ad.add (j * 3))=some (.string xs[j].f0)∧w.cell? ⟨(ad.add (j * 3)).block,(ad.add (j * 3)).off + 1,none⟩=some (.int .i64 xs[j].f1)∧w.cell? ⟨(ad.add (j * 3)).block,(ad.add (j * 3)).off + 2,none⟩=some (.int .i64 xs[j].f2):=by
 obtain ⟨ad,e,h0,h1,h2⟩:=at_T128 (Kd.F_now h) (j:Int) (by omega) (by omega)
 have hrd:rd_T128 xs (j:Int)=xs[j]:=by unfold rd_T128;rw [Int.toNat_natCast,List.getD_eq_getElem?_getD,List.getElem?_eq_getElem hj];rfl
 rw [hrd] at h0 h1 h2
 simp only [Int.toNat_natCast] at h0 h1 h2
 exact ⟨ad,e,h0,h1,h2⟩
theorem le_maxLen {n:Nat} (h:n ≤ 100000):n ≤ maxLen:=by unfold maxLen;omega
theorem lt_maxLen {n:Nat} (h:n ≤ 200000):n < maxLen:=by unfold maxLen;omega
set_option maxHeartbeats 4000000 in
set_option maxRecDepth 100000 in
theorem twice_out {w0:World} {x:S60} {a:Ads} (hF:StA (fun _ => True) w0 x a) (hm:Mod x) (hs:∀ s ∈ namesOf x,s.size ≤ 100000):Calls Tryz.prog 107 #[.agg (celA x a)] w0 fun e w' => e = .returned (.bool (twiceB x))∧Below w0.heap.size w0 w':=by
 obtain ⟨A2,C2,A4,C4,A5,C5,A6,C6,A7,C7⟩:=a
 have HF0:=Aside0.mk hF
 have HM:=Aside0.mk hm
 have HS:=Aside0.mk hs
 clear hF hm hs
 have hmm:=@run_makeMap Tryz.prog
 go_enter Tryz.func107,Tryz.ntmps107
 go_upto_region 1 with (fail)
 have BX0:=Aside0.mk (new_blk (W:=w0) (.cells (celA x ⟨A2,C2,A4,C4,A5,C5,A6,C6,A7,C7⟩) 60 (0,0)) rfl)
 have HBW:=Aside0.mk (below_alloc (Below.refl w0.heap.size w0) (.cells (celA x ⟨A2,C2,A4,C4,A5,C5,A6,C6,A7,C7⟩) 60 (0,0)))
 generalize hxb:w0.heap.size=xb at BX0 ⊢
 have hxl:xb < (w0.alloc (.cells (celA x ⟨A2,C2,A4,C4,A5,C5,A6,C6,A7,C7⟩) 60 (0,0))).heap.size:=blk_lt BX0.out
 have HF:Aside0 (StA (fun _ => True) (w0.alloc (.cells (celA x ⟨A2,C2,A4,C4,A5,C5,A6,C6,A7,C7⟩) 60 (0,0))) x ⟨A2,C2,A4,C4,A5,C5,A6,C6,A7,C7⟩):=⟨⟨HF0.out.l2,Kd.F_alloc HF0.out.f2 _,HF0.out.l4,Kd.F_alloc HF0.out.f4 _,HF0.out.l5,Kd.F_alloc HF0.out.f5 _,HF0.out.l6,Kd.F_alloc HF0.out.f6 _,HF0.out.l7,Kd.F_alloc HF0.out.f7 _⟩⟩
 clear HF0
 generalize hW:w0.alloc (.cells (celA x ⟨A2,C2,A4,C4,A5,C5,A6,C6,A7,C7⟩) 60 (0,0))=w at BX0 HBW HF hxl ⊢
 clear hW
 have HF2:=Aside0.mk (F_old HF.out.f2)
 have HF6:=Aside0.mk (F_old HF.out.f6)
 clear HF
 go_upto_region 2 with (fail)
 have HO1:=Aside0.mk (World.ownsMap_made w Tryz.prog 9 (plainElem (H:=Unit) Tryz.prog 4))
 have HB1:=Aside0.mk (below_alloc (Below.refl w.heap.size w) (.map #[] 0))
 generalize hmb:w.heap.size=mb at HO1 ⊢
 generalize hW1:w.alloc (.map #[] 0)=w1 at HO1 HB1 ⊢
 clear hW1
 have hmw:w.heap.size ≤ mb:=by omega
 have BX1:=Aside0.mk ((HB1.out.block xb hxl).trans BX0.out)
 have r2:w1.cell? ⟨xb,2,none⟩=some (.slice A2 x.f2.length C2):=(blk_cell BX1.out 2).trans rfl
 have hz1:=blk_lt BX1.out
 go_wp2
 go_loopg [12] x.f2.length (fun kq v12 w' => ∃ (j:Nat),v12 = .int .i64 (j:Int)∧Aside0 (j + kq=x.f2.length)∧Aside0 (w'.ownsMap Tryz.prog 9 (plainElem (H:=Unit) Tryz.prog 4) mb j (nmap ((x.f2.take j).map (·.f0))))∧Aside0 (Below w.heap.size w w'))
 case atStart => exact ⟨0,rfl,⟨by omega⟩,HO1,HB1⟩
 case round =>
  clear HO1 HB1
  obtain ⟨j,rfl,HJ,HO,HB⟩:=hrel
  have hjl:=HJ.out
  have hll:=HM.out.n2
  have hsl:=HB.out.size
  cases gk with
  | zero =>
   have d0:decide (j < x.f2.length)=false:=decide_eq_false (by omega)
   have d0i:decide ((j:Int) < (x.f2.length:Int))=false:=decide_eq_false (by omega)
   have hD:=HO.out
   rw [List.take_of_length_le (by omega)] at hD
   have HO7:=Aside0.mk (World.ownsMap.mono hD (n':=x.f2.length) (by omega))
   have BX7:=Aside0.mk ((HB.out.block xb hxl).trans BX0.out)
   clear hD hjl hll HJ HO
   go_upto_region 7 with (fail)
   obtain ⟨w7,hw7⟩:∃ y,y=wr:=⟨_,rfl⟩
   rw [← hw7] at HO7 BX7 HB ⊢
   clear hw7
   have s6:w7.cell? ⟨xb,6,none⟩=some (.slice A6 x.f6.length C6):=(blk_cell BX7.out 6).trans rfl
   have hz7:=blk_lt BX7.out
   go_wp2
   go_loopg [23] x.f6.length (fun kq v23 w' => ∃ (j:Nat),v23 = .int .i64 (j:Int)∧Aside0 (j + kq=x.f6.length)∧Aside0 (w'.ownsMap Tryz.prog 9 (plainElem (H:=Unit) Tryz.prog 4) mb (x.f2.length + j) (nmap (x.f2.map (·.f0) ++ (x.f6.take j).map (·.f0))))∧Aside0 (Below w.heap.size w w'))
   case atStart => exact ⟨0,rfl,⟨by omega⟩,⟨by simpa using HO7.out⟩,HB⟩
   case round =>
    clear HO7 HB BX7
    obtain ⟨j,rfl,HJ,HO,HB⟩:=hrel
    have hjl:=HJ.out
    have hll:=HM.out.n6
    have hsl:=HB.out.size
    cases gk with
    | zero =>
     have d0:decide (j < x.f6.length)=false:=decide_eq_false (by omega)
     have d0i:decide ((j:Int) < (x.f6.length:Int))=false:=decide_eq_false (by omega)
     have hD:=HO.out
     rw [List.take_of_length_le (by omega)] at hD
     have HO8:=Aside0.mk hD
     have BX8:=Aside0.mk ((HB.out.block xb hxl).trans BX0.out)
     have hn2:=HM.out.n2
     have hws:wrap64 ((x.f2.length:Int) + (x.f6.length:Int))=((x.f2.length + x.f6.length:Nat):Int):=by unfold wrap64;omega
     have y2:wr.cell? ⟨xb,2,none⟩=some (.slice A2 x.f2.length C2):=(blk_cell BX8.out 2).trans rfl
     have y6:wr.cell? ⟨xb,6,none⟩=some (.slice A6 x.f6.length C6):=(blk_cell BX8.out 6).trans rfl
     have hz8:=blk_lt BX8.out
     clear hD hjl hll hn2
     go_wp2_with (first | (at_len;refine wpList_len_own _ rfl _ 234 rfl 9 4 Tryz.underlying234 _ mb _ _ rfl HO8.out ?_))
     go_ret
     refine ⟨?_,below_step HBW.out HB.out⟩
     have ht:twiceB x=decide ((Maps.size (nmap (x.f2.map (·.f0) ++ x.f6.map (·.f0))):Int) < (x.f2.length:Int) + (x.f6.length:Int)):=by
      unfold twiceB namesOf
      rw [decide_eq_decide]
      constructor
      ·intro h;exact_mod_cast h
      ·intro h;exact_mod_cast h
     rw [ht]
     rfl
    | succ k1 =>
     have d0:decide (j < x.f6.length)=true:=decide_eq_true (by omega)
     have d0i:decide ((j:Int) < (x.f6.length:Int))=true:=decide_eq_true (by omega)
     have p1:0 ≤ (j:Int):=by omega
     have q1:(j:Int) < (x.f6.length:Int):=by omega
     have q2:j < x.f6.length:=by omega
     obtain ⟨ad,A0,c0,e0,x0,x1,x2,x3,x4,x5,x6,hl0,hf0⟩:=set_at (Kd.F_step HF6.out (fun q hq _ => HB.out.block q hq)) j q2
     cases e0
     obtain ⟨S,hS⟩:∃ S,x.f6[j]=S:=⟨_,rfl⟩
     rw [hS] at x0 x1 x2 x3 x4 x5 x6
     have hn2:=HM.out.n2
     have HNL:=Aside0.mk (lt_maxLen (show x.f2.length + j ≤ 200000 by omega))
     clear hn2
     have HJ1:=Aside0.mk (show j + 1 + k1=x.f6.length by omega)
     have hw1:wrap64 ((j:Int) + 1)=((j + 1:Nat):Int):=by unfold wrap64;omega
     have HTK:=Aside0.mk (show x.f6.take (j + 1)=x.f6.take j ++ [S] by rw [List.take_add_one,List.getElem?_eq_getElem q2,hS];rfl)
     have HSS:=Aside0.mk (show S.f0.size ≤ 100000 from HS.out _ (by unfold namesOf;simp only [List.mem_append,List.mem_map];exact .inr ⟨S,hS ▸ List.getElem_mem q2,rfl⟩))
     replace p1:=eq_true p1
     replace q1:=eq_true q1
     clear hS hjl hll
     go_upto_region 10 with (fail)
     have BS:=Aside0.mk (new_blk (W:=wr) (.cells #[.string S.f0,.string S.f1.f0,.int .i64 S.f1.f1.f0,.int .i64 S.f1.f1.f1,.string S.f1.f1.f2,.string S.f1.f2,.slice A0 S.f1.f3.length c0] 90 (0,0)) rfl)
     have HOW:=Aside0.mk (World.ownsMap.kept HO.out (World.grownBy_alloc _ (.cells #[.string S.f0,.string S.f1.f0,.int .i64 S.f1.f1.f0,.int .i64 S.f1.f1.f1,.string S.f1.f1.f2,.string S.f1.f2,.slice A0 S.f1.f3.length c0] 90 (0,0)) none) (by simp))
     have HBW2:=Aside0.mk (below_alloc HB.out (.cells #[.string S.f0,.string S.f1.f0,.int .i64 S.f1.f1.f0,.int .i64 S.f1.f1.f1,.string S.f1.f1.f2,.string S.f1.f2,.slice A0 S.f1.f3.length c0] 90 (0,0)))
     generalize hsb:wr.heap.size=sb at BS ⊢
     generalize hW:wr.alloc (.cells #[.string S.f0,.string S.f1.f0,.int .i64 S.f1.f1.f0,.int .i64 S.f1.f1.f1,.string S.f1.f1.f2,.string S.f1.f2,.slice A0 S.f1.f3.length c0] 90 (0,0))=W at BS HOW HBW2 ⊢
     clear hsb hW
     have z0:W.cell? ⟨sb,0,none⟩=some (.string S.f0):=(blk_cell BS.out 0).trans rfl
     have hsW:=blk_lt BS.out
     obtain ⟨s,hs⟩:∃ s,S.f0=s:=⟨_,rfl⟩
     rw [hs] at z0 HSS
     have HSE:=Aside0.mk hs
     clear hs
     go_wp2_with (first | (at_mapUpdate;refine wpList_mapUpdate_own _ rfl _ _ _ 234 rfl 9 4 law9 Tryz.underlying234 _ mb (x.f2.length + j) (nmap (x.f2.map (·.f0) ++ (x.f6.take j).map (·.f0))) rfl HOW.out HNL.out _ _ (.string s.data.toList) rfl rfl (Go.WideMaps.keyOf_string_mk Tryz.underlying9 (le_maxLen HSS.out)) _ [] (plainElem_bool Tryz.underlying4 _) ?_;intro w6 ho hg;have HO6:=Aside0.mk ho;have HB6:=Aside0.mk (HBW2.out.grown hg HBW2.out.size (fun q hq => by cases hq;exact hmw));clear ho hg))
     go_roundg k1
     case measure => first | exact Nat.lt_succ_self _ | omega
     case rel => exact ⟨j + 1,by rw [hw1],HJ1,⟨by rw [HTK.out,List.map_append,← List.append_assoc];simp only [List.map_cons,List.map_nil];rw [nmap_snoc,HSE.out];exact HO6.out⟩,HB6⟩
  | succ k1 =>
   have d0:decide (j < x.f2.length)=true:=decide_eq_true (by omega)
   have d0i:decide ((j:Int) < (x.f2.length:Int))=true:=decide_eq_true (by omega)
   have p1:0 ≤ (j:Int):=by omega
   have q1:(j:Int) < (x.f2.length:Int):=by omega
   have q2:j < x.f2.length:=by omega
   obtain ⟨ad,e0,x0,x1,x2⟩:=col_at (Kd.F_step HF2.out (fun q hq _ => HB.out.block q hq)) j q2
   cases e0
   obtain ⟨S,hS⟩:∃ S,x.f2[j]=S:=⟨_,rfl⟩
   rw [hS] at x0 x1 x2
   have hn2:=HM.out.n2
   have HNL:=Aside0.mk (lt_maxLen (show j ≤ 200000 by omega))
   clear hn2
   have HJ1:=Aside0.mk (show j + 1 + k1=x.f2.length by omega)
   have hw1:wrap64 ((j:Int) + 1)=((j + 1:Nat):Int):=by unfold wrap64;omega
   have HTK:=Aside0.mk (show x.f2.take (j + 1)=x.f2.take j ++ [S] by rw [List.take_add_one,List.getElem?_eq_getElem q2,hS];rfl)
   have HSS:=Aside0.mk (show S.f0.size ≤ 100000 from HS.out _ (by unfold namesOf;simp only [List.mem_append,List.mem_map];exact .inl ⟨S,hS ▸ List.getElem_mem q2,rfl⟩))
   replace p1:=eq_true p1
   replace q1:=eq_true q1
   clear hS hjl hll
   go_upto_region 5 with (fail)
   have BS:=Aside0.mk (new_blk (W:=wr) (.cells #[.string S.f0,.int .i64 S.f1,.int .i64 S.f2] 128 (0,0)) rfl)
   have HOW:=Aside0.mk (World.ownsMap.kept HO.out (World.grownBy_alloc _ (.cells #[.string S.f0,.int .i64 S.f1,.int .i64 S.f2] 128 (0,0)) none) (by simp))
   have HBW2:=Aside0.mk (below_alloc HB.out (.cells #[.string S.f0,.int .i64 S.f1,.int .i64 S.f2] 128 (0,0)))
   generalize hsb:wr.heap.size=sb at BS ⊢
   generalize hW:wr.alloc (.cells #[.string S.f0,.int .i64 S.f1,.int .i64 S.f2] 128 (0,0))=W at BS HOW HBW2 ⊢
   clear hsb hW
   have z0:W.cell? ⟨sb,0,none⟩=some (.string S.f0):=(blk_cell BS.out 0).trans rfl
   have hsW:=blk_lt BS.out
   obtain ⟨s,hs⟩:∃ s,S.f0=s:=⟨_,rfl⟩
   rw [hs] at z0 HSS
   have HSE:=Aside0.mk hs
   clear hs
   go_wp2_with (first | (at_mapUpdate;refine wpList_mapUpdate_own _ rfl _ _ _ 234 rfl 9 4 law9 Tryz.underlying234 _ mb j (nmap ((x.f2.take j).map (·.f0))) rfl HOW.out HNL.out _ _ (.string s.data.toList) rfl rfl (Go.WideMaps.keyOf_string_mk Tryz.underlying9 (le_maxLen HSS.out)) _ [] (plainElem_bool Tryz.underlying4 _) ?_;intro w6 ho hg;have HO6:=Aside0.mk ho;have HB6:=Aside0.mk (HBW2.out.grown hg HBW2.out.size (fun q hq => by cases hq;exact hmw));clear ho hg))
   go_roundg k1
   case measure => first | exact Nat.lt_succ_self _ | omega
   case rel => exact ⟨j + 1,by rw [hw1],HJ1,⟨by rw [HTK.out,List.map_append];simp only [List.map_cons,List.map_nil];rw [nmap_snoc,HSE.out];exact HO6.out⟩,HB6⟩
end Go.Proofs.YtcgdncpioafbdaaGreatDoor.Q
namespace Go.Proofs.YtcgdncpioafbdaaGreatDoor.Q
open Go Go.RowKit Go.Proofs.YtcgdncpioafbdaaGreatDoorW.PrintWords
def TK (N:Nat) (ts:List S32):Prop:=∀ t ∈ ts,t.f1.size ≤ N
theorem nx_T {N:Nat} {ts r:List S32} {t:S32} (h:Ps.nx ts=some (t,r)) (hT:TK N ts):t.f1.size ≤ N∧TK N r:=by
 obtain ⟨_,_,rfl⟩:=Ps.nx_len h
 exact ⟨hT t (List.mem_cons_self),fun u hu => hT u (List.mem_cons_of_mem _ hu)⟩
theorem tk_T {N:Nat} {s:ByteArray} {ts r:List S32} {b:Bool} (h:Ps.tk s ts=some (b,r)) (hT:TK N ts):TK N r:=by
 unfold Ps.tk at h
 split at h
 ·cases hn:Ps.nx ts with
  | none => rw [hn] at h;cases h
  | some p =>
   obtain ⟨t,r'⟩:=p
   rw [hn] at h
   cases h
   exact (nx_T hn hT).2
 ·cases h;exact hT
theorem ms_T {N:Nat}:∀ {l:List ByteArray} {ts r:List S32},Ps.ms l ts=some r → TK N ts → TK N r
 | [],ts,r,h,hT => by simp only [Ps.ms] at h;cases h;exact hT
 | s :: l,ts,r,h,hT => by
  simp only [Ps.ms] at h
  cases ht:Ps.tk s ts with
  | none => rw [ht] at h;cases h
  | some p =>
   obtain ⟨b,r'⟩:=p
   rw [ht] at h
   cases b with
   | false => cases h
   | true => exact ms_T h (tk_T ht hT)
theorem nm_T {N:Nat} {ts r:List S32} {s:ByteArray} (h:Ps.nm ts=some (s,r)) (hT:TK N ts):s.size ≤ N∧TK N r:=by
 unfold Ps.nm at h
 cases hn:Ps.nx ts with
 | none => rw [hn] at h;cases h
 | some p =>
  obtain ⟨t,r'⟩:=p
  rw [hn] at h
  simp only at h
  have:=nx_T hn hT
  split at h
  ·split at h
   ·cases h
   ·cases h;exact this
  ·cases h
theorem all_T {N:Nat} (k:Nat):(∀ least ts e r,Ps.expr k least ts=some (e,r) → TK N ts → TK N r)∧(∀ least x ts e r,Ps.more k least x ts=some (e,r) → TK N ts → TK N r)∧(∀ ts e r,Ps.first k ts=some (e,r) → TK N ts → TK N r):=by
 induction k with
 | zero => exact ⟨fun _ _ _ _ h => by simp [Ps.expr] at h,fun _ _ _ _ _ h => by simp [Ps.more] at h,fun _ _ _ h => by simp [Ps.first] at h⟩
 | succ k ih =>
  obtain ⟨ih1,ih2,ih3⟩:=ih
  refine ⟨fun least ts e r h hT => ?_,fun least x ts e r h hT => ?_,fun ts e r h hT => ?_⟩
  ·simp only [Ps.expr] at h
   split at h
   ·cases h
   ·split at h
    ·cases h
    ·rename_i e' r' hf
     exact ih2 _ _ _ _ _ h (ih3 _ _ _ hf hT)
  ·simp only [Ps.more] at h
   split at h
   ·cases h;exact hT
   ·split at h
    ·cases h;exact hT
    ·split at h
     ·cases h
     ·rename_i t r1 hn
      have h0:=(nx_T hn hT).2
      split at h
      ·split at h
       ·cases h
       ·rename_i no r2 ht
        have h1:=tk_T ht h0
        split at h
        ·cases h
        ·rename_i r3 hm
         exact ih2 _ _ _ _ _ h (ms_T hm h1)
      ·split at h
       ·cases h
       ·rename_i y r2 he
        exact ih2 _ _ _ _ _ h (ih1 _ _ _ _ he h0)
  ·simp only [Ps.first] at h
   split at h
   ·cases h
   ·rename_i t r1 hn
    have h0:=(nx_T hn hT).2
    repeat' (split at h)
    all_goals first
     | (cases h;done)
     | (cases h;exact h0)
     | (cases h;exact ih1 _ _ _ _ (by assumption) h0)
     | (cases h;exact ms_T (by assumption) h0)
     | (cases h;exact ms_T (by assumption) (ih1 _ _ _ _ (by assumption) h0))
     | (cases h;exact ms_T (by assumption) (ih1 _ _ _ _ (by assumption) (ms_T (by assumption) h0)))
theorem expr_T {N k:Nat} {least:Int} {ts r:List S32} {e:S43} (h:Ps.expr k least ts=some (e,r)) (hT:TK N ts):TK N r:=(all_T k).1 _ _ _ _ h hT
theorem lst_good {α σ:Type} {N:Nat} {one:σ → List S32 → Option ((α × σ) × List S32)} {Q:α → Prop} (hone:∀ st ts x st' r,one st ts=some ((x,st'),r) → TK N ts → Q x∧TK N r):∀ {k:Nat} {acc:List α} {st:σ} {ts:List S32} {l:List α} {st':σ} {r:List S32},Ps.lst one k acc st ts=some ((l,st'),r) → TK N ts → (∀ x ∈ acc,Q x) → (∀ x ∈ l,Q x)∧l.length ≤ acc.length + k∧TK N r
 | 0,_,_,_,_,_,_,h,_,_ => by simp [Ps.lst] at h
 | k + 1,acc,st,ts,l,st',r,h,hT,hA => by
  cases ht:Ps.tk Ps.sComma ts with
  | none => rw [lst_none ht] at h;cases h
  | some p =>
   obtain ⟨b,r1⟩:=p
   have h1:=tk_T ht hT
   cases b with
   | false =>
    rw [lst_false ht] at h
    cases h
    exact ⟨hA,by omega,h1⟩
   | true =>
    cases hx:one st r1 with
    | none => rw [lst_true_none ht hx] at h;cases h
    | some p =>
     obtain ⟨⟨x,s1⟩,r2⟩:=p
     rw [lst_true_some ht hx] at h
     obtain ⟨q1,q2⟩:=hone _ _ _ _ _ hx h1
     obtain ⟨g1,g2,g3⟩:=lst_good hone h q2 (fun y hy => by
      rcases List.mem_append.1 hy with hy | hy
      ·exact hA y hy
      ·rw [List.mem_singleton.1 hy];exact q1)
     exact ⟨g1,by rw [List.length_append] at g2;simp at g2;omega,g3⟩
theorem list_good {α σ:Type} {N:Nat} {one:σ → List S32 → Option ((α × σ) × List S32)} {Q:α → Prop} (hone:∀ st ts x st' r,one st ts=some ((x,st'),r) → TK N ts → Q x∧TK N r) {k:Nat} {st:σ} {ts:List S32} {l:List α} {st':σ} {r:List S32} (h:Ps.list one k st ts=some ((l,st'),r)) (hT:TK N ts):(∀ x ∈ l,Q x)∧l.length ≤ k + 1∧TK N r:=by
 unfold Ps.list at h
 cases hx:one st ts with
 | none => rw [hx] at h;cases h
 | some p =>
  obtain ⟨⟨x,s2⟩,r2⟩:=p
  rw [hx] at h
  obtain ⟨q1,q2⟩:=hone _ _ _ _ _ hx hT
  obtain ⟨g1,g2,g3⟩:=lst_good hone h q2 (fun y hy => by rw [List.mem_singleton.1 hy];exact q1)
  exact ⟨g1,by simp at g2;omega,g3⟩
theorem any_good {N k:Nat} (st:Unit) (ts:List S32) (x:S43) (st':Unit) (r:List S32) (h:Ps.anyU k st ts=some ((x,st'),r)) (hT:TK N ts):fu x ≤ BB k∧TK N r:=by
 unfold Ps.anyU at h
 cases he:Ps.expr k 0 ts with
 | none => rw [he] at h;cases h
 | some p => rw [he] at h;cases h;exact ⟨fu_expr he,expr_T he hT⟩
theorem lists_good {N k:Nat} {ts r:List S32} {l:List S43} (h:Ps.lists k ts=some (l,r)) (hT:TK N ts):(∀ x ∈ l,fu x ≤ BB k)∧l.length ≤ k + 1∧TK N r:=by
 unfold Ps.lists at h
 cases hl:Ps.list (Ps.anyU k) k () ts with
 | none => rw [hl] at h;cases h
 | some p =>
  obtain ⟨⟨l',u⟩,r'⟩:=p
  rw [hl] at h
  cases h
  exact list_good (N:=N) any_good hl hT
theorem row_good {N k:Nat} (st:Unit) (ts:List S32) (x:List S43) (st':Unit) (r:List S32) (h:Ps.rowU k st ts=some ((x,st'),r)) (hT:TK N ts):(∀ e ∈ x,fu e ≤ BB k)∧TK N r:=by
 unfold Ps.rowU Ps.row at h
 cases hu:Ps.ms [Ps.sOpen] ts with
 | none => rw [hu] at h;cases h
 | some r1 =>
  rw [hu] at h
  simp only at h
  cases hl:Ps.lists k r1 with
  | none => rw [hl] at h;cases h
  | some p =>
   obtain ⟨l,r2⟩:=p
   rw [hl] at h
   simp only at h
   obtain ⟨g1,_,g3⟩:=lists_good hl (ms_T hu hT)
   cases hc:Ps.ms [Ps.sClose] r2 with
   | none => rw [hc] at h;cases h
   | some r3 => rw [hc] at h;cases h;exact ⟨g1,ms_T hc g3⟩
theorem set_good {N k:Nat} (st:Unit) (ts:List S32) (x:S90) (st':Unit) (r:List S32) (h:Ps.setU k st ts=some ((x,st'),r)) (hT:TK N ts):(fu x.f1 ≤ BB k∧x.f0.size ≤ N)∧TK N r:=by
 unfold Ps.setU Ps.set at h
 cases hn:Ps.nm ts with
 | none => rw [hn] at h;cases h
 | some p =>
  obtain ⟨c,r1⟩:=p
  rw [hn] at h
  simp only at h
  obtain ⟨n1,n2⟩:=nm_T hn hT
  cases hu:Ps.ms [Ps.sEq] r1 with
  | none => rw [hu] at h;cases h
  | some r2 =>
   rw [hu] at h
   simp only at h
   cases he:Ps.expr k 0 r2 with
   | none => rw [he] at h;cases h
   | some p =>
    obtain ⟨e,r3⟩:=p
    rw [he] at h
    cases h
    exact ⟨⟨fu_expr he,n1⟩,expr_T he (ms_T hu n2)⟩
theorem colB_good {N:Nat} {key c:ByteArray} {kind:Int} {ts r:List S32} {x:S128} {key':ByteArray} (h:Ps.colB key c kind ts=some ((x,key'),r)) (hT:TK N ts):x.f0=c∧TK N r:=by
 unfold Ps.colB at h
 cases hd:Ps.tk Ps.sDet ts with
 | none => rw [hd] at h;cases h
 | some p =>
  obtain ⟨d,r3⟩:=p
  have h2:=tk_T hd hT
  rw [hd] at h
  simp only at h
  cases hk:Ps.tk Ps.sKey r3 with
  | none => rw [hk] at h;cases h
  | some p =>
   obtain ⟨b,r4⟩:=p
   have h3:=tk_T hk h2
   rw [hk] at h
   cases b with
   | false => cases h;exact ⟨rfl,h3⟩
   | true =>
    simp only at h
    split at h
    ·cases h;exact ⟨rfl,h3⟩
    ·cases h
theorem column_good {N:Nat} (key:ByteArray) (ts:List S32) (x:S128) (key':ByteArray) (r:List S32) (h:Ps.column key ts=some ((x,key'),r)) (hT:TK N ts):x.f0.size ≤ N∧TK N r:=by
 unfold Ps.column at h
 cases hn:Ps.nm ts with
 | none => rw [hn] at h;cases h
 | some p =>
  obtain ⟨c,r1⟩:=p
  obtain ⟨n1,n2⟩:=nm_T hn hT
  rw [hn] at h
  simp only at h
  cases ht:Ps.tk Ps.sText r1 with
  | none => rw [ht] at h;cases h
  | some p =>
   obtain ⟨b,r2⟩:=p
   have h2:=tk_T ht n2
   rw [ht] at h
   cases b with
   | true =>
    obtain ⟨g1,g2⟩:=colB_good h h2
    exact ⟨g1 ▸ n1,g2⟩
   | false =>
    simp only at h
    cases hu:Ps.ms [Ps.sInt] r2 with
    | none => rw [hu] at h;cases h
    | some r3 =>
     rw [hu] at h
     obtain ⟨g1,g2⟩:=colB_good h (ms_T hu h2)
     exact ⟨g1 ▸ n1,g2⟩
theorem whr_good {N k:Nat} {ts r:List S32} {l:List S43} (h:Ps.whr k ts=some (l,r)) (hT:TK N ts):(∀ e ∈ l,fu e ≤ BB k)∧l.length ≤ 1∧TK N r:=by
 unfold Ps.whr at h
 cases ht:Ps.tk Ps.sWhere ts with
 | none => rw [ht] at h;cases h
 | some p =>
  obtain ⟨b,r1⟩:=p
  have h1:=tk_T ht hT
  rw [ht] at h
  cases b with
  | false => cases h;exact ⟨by simp,by simp,h1⟩
  | true =>
   simp only at h
   cases hx:Ps.expr k 0 r1 with
   | none => rw [hx] at h;cases h
   | some p =>
    obtain ⟨y,r3⟩:=p
    rw [hx] at h
    cases h
    exact ⟨fun e he => by rw [List.mem_singleton.1 he];exact fu_expr hx,by simp,expr_T hx h1⟩
structure GoodS (N k:Nat) (x:S60):Prop where
 n2:x.f2.length ≤ k + 1
 n4:x.f4.length ≤ k + 1
 n5:x.f5.length ≤ k + 1
 n6:x.f6.length ≤ k + 1
 n7:x.f7.length ≤ 1
 e4:∀ r ∈ x.f4,∀ e ∈ r,fu e ≤ BB k
 e5:∀ e ∈ x.f5,fu e ≤ BB k
 e6:∀ s ∈ x.f6,fu s.f1 ≤ BB k∧s.f0.size ≤ N
 e7:∀ e ∈ x.f7,fu e ≤ BB k
 s2:∀ c ∈ x.f2,c.f0.size ≤ N
theorem GoodS.zero (N k:Nat) {x:S60} (h2:x.f2=[]) (h4:x.f4=[]) (h5:x.f5=[]) (h6:x.f6=[]) (h7:x.f7=[]):GoodS N k x:=by
 refine ⟨by rw [h2];simp,by rw [h4];simp,by rw [h5];simp,by rw [h6];simp,by rw [h7];simp,by rw [h4];simp,by rw [h5];simp,by rw [h6];simp,by rw [h7];simp,by rw [h2];simp⟩
theorem GoodS.of {N k:Nat} {s x:S60} (h:GoodS N k s) (h2:x.f2=s.f2) (h4:x.f4=s.f4) (h5:x.f5=s.f5) (h6:x.f6=s.f6) (h7:x.f7=s.f7):GoodS N k x :=
 ⟨h2 ▸ h.n2,h4 ▸ h.n4,h5 ▸ h.n5,h6 ▸ h.n6,h7 ▸ h.n7,h4 ▸ h.e4,h5 ▸ h.e5,h6 ▸ h.e6,h7 ▸ h.e7,h2 ▸ h.s2⟩
theorem fin_is {s x:S60} {ts:List S32} (h:Ps.fin s ts=some x):x=s:=by
 unfold Ps.fin at h
 split at h
 ·cases h
 ·split at h
  ·cases h
  ·split at h
   ·cases h;rfl
   ·cases h
theorem chooseL_good {N k:Nat} {s x:S60} {ts r:List S32} (h:Ps.chooseL s ts=some (x,r)) (hs:GoodS N k s):GoodS N k x:=by
 unfold Ps.chooseL at h
 split at h
 ·cases h
 ·cases h;exact hs
 ·split at h
  ·cases h
  ·split at h
   ·cases h;exact hs.of rfl rfl rfl rfl rfl
   ·cases h
theorem chooseO_good {N k:Nat} {s x:S60} {ts r:List S32} (h:Ps.chooseO s ts=some (x,r)) (hs:GoodS N k s):GoodS N k x:=by
 unfold Ps.chooseO at h
 split at h
 ·cases h
 ·exact chooseL_good h hs
 ·split at h
  ·cases h
  ·split at h
   ·cases h
   ·split at h
    ·cases h
    ·exact chooseL_good h (hs.of rfl rfl rfl rfl rfl)
theorem chooseF_good {N k:Nat} {s x:S60} {ts r:List S32} (h:Ps.chooseF k s ts=some (x,r)) (hs:GoodS N k s) (hT:TK N ts):GoodS N k x:=by
 unfold Ps.chooseF at h
 cases hu:Ps.ms [Ps.sFrom] ts with
 | none => rw [hu] at h;cases h
 | some r1 =>
  rw [hu] at h
  simp only at h
  cases hn:Ps.nm r1 with
  | none => rw [hn] at h;cases h
  | some p =>
   obtain ⟨t,r2⟩:=p
   rw [hn] at h
   simp only at h
   cases hw:Ps.whr k r2 with
   | none => rw [hw] at h;cases h
   | some p =>
    obtain ⟨l,r3⟩:=p
    rw [hw] at h
    simp only at h
    obtain ⟨g1,g2,_⟩:=whr_good (N:=N) hw (nm_T hn (ms_T hu hT)).2
    exact chooseO_good h ⟨hs.n2,hs.n4,hs.n5,hs.n6,g2,hs.e4,hs.e5,hs.e6,g1,hs.s2⟩
theorem choose_good {N k:Nat} {s x:S60} {ts r:List S32} (h:Ps.choose k s ts=some (x,r)) (hs:GoodS N k s) (hT:TK N ts):GoodS N k x:=by
 unfold Ps.choose at h
 cases ht:Ps.tk Ps.sStar ts with
 | none => rw [ht] at h;cases h
 | some p =>
  obtain ⟨b,r1⟩:=p
  have h1:=tk_T ht hT
  rw [ht] at h
  cases b with
  | true => exact chooseF_good h hs h1
  | false =>
   simp only at h
   cases hl:Ps.lists k r1 with
   | none => rw [hl] at h;cases h
   | some p =>
    obtain ⟨l,r2⟩:=p
    rw [hl] at h
    simp only at h
    obtain ⟨g1,g2,g3⟩:=lists_good (N:=N) hl h1
    exact chooseF_good h ⟨hs.n2,hs.n4,g2,hs.n6,hs.n7,hs.e4,g1,hs.e6,hs.e7,hs.s2⟩ g3
theorem head_T {N:Nat} {l:List ByteArray} {ts r:List S32} {s:ByteArray} (h:Ps.head l ts=some (s,r)) (hT:TK N ts):s.size ≤ N∧TK N r:=by
 unfold Ps.head at h
 cases hu:Ps.ms l ts with
 | none => rw [hu] at h;cases h
 | some r1 => rw [hu] at h;exact nm_T h (ms_T hu hT)
theorem stmt_good {N k:Nat} {x:S60} {ts:List S32} (h:Ps.stmt k ts=some x) (hT:TK N ts):GoodS N k x:=by
 unfold Ps.stmt at h
 cases hn:Ps.nx ts with
 | none => rw [hn] at h;cases h
 | some p =>
  obtain ⟨t,r⟩:=p
  rw [hn] at h
  simp only at h
  have h0:=(nx_T hn hT).2
  split at h
  ·split at h
   ·cases h
   ·rename_i n r1 hh
    have h1:=(head_T hh h0).2
    split at h
    ·cases h
    ·rename_i r2 hm
     split at h
     ·cases h
     ·rename_i l key r3 hl
      obtain ⟨g1,g2,g3⟩:=list_good (N:=N) (Q:=fun c => c.f0.size ≤ N) column_good hl (ms_T hm h1)
      split at h
      ·cases h
      ·split at h
       ·cases h
       ·rw [fin_is h]
        exact ⟨g2,by simp [Ps.st0,z60],by simp [Ps.st0,z60],by simp [Ps.st0,z60],by simp [Ps.st0,z60],by simp [Ps.st0,z60],by simp [Ps.st0,z60],by simp [Ps.st0,z60],by simp [Ps.st0,z60],g1⟩
  ·split at h
   ·split at h
    ·cases h
    ·rw [fin_is h];exact GoodS.zero N k rfl rfl rfl rfl rfl
   ·split at h
    ·split at h
     ·cases h
     ·rename_i n r1 hh
      have h1:=(head_T hh h0).2
      split at h
      ·cases h
      ·rename_i r2 hm
       split at h
       ·cases h
       ·rename_i l u r3 hl
        obtain ⟨g1,g2,g3⟩:=list_good (N:=N) (Q:=fun (r:List S43) => ∀ e ∈ r,fu e ≤ BB k) row_good hl (ms_T hm h1)
        rw [fin_is h]
        exact ⟨by simp [Ps.st0,z60],g2,by simp [Ps.st0,z60],by simp [Ps.st0,z60],by simp [Ps.st0,z60],g1,by simp [Ps.st0,z60],by simp [Ps.st0,z60],by simp [Ps.st0,z60],by simp [Ps.st0,z60]⟩
    ·split at h
     ·split at h
      ·cases h
      ·rename_i s r1 hc
       rw [fin_is h]
       exact choose_good hc (GoodS.zero N k rfl rfl rfl rfl rfl) h0
     ·split at h
      ·split at h
       ·cases h
       ·rename_i n r1 hh
        have h1:=(nm_T hh h0).2
        split at h
        ·cases h
        ·rename_i r2 hm
         split at h
         ·cases h
         ·rename_i l u r3 hl
          obtain ⟨g1,g2,g3⟩:=list_good (N:=N) (Q:=fun (s:S90) => fu s.f1 ≤ BB k∧s.f0.size ≤ N) set_good hl (ms_T hm h1)
          split at h
          ·cases h
          ·rename_i wl r4 hw
           obtain ⟨w1,w2,_⟩:=whr_good (N:=N) hw g3
           rw [fin_is h]
           exact ⟨by simp [Ps.st0,z60],by simp [Ps.st0,z60],by simp [Ps.st0,z60],g2,w2,by simp [Ps.st0,z60],by simp [Ps.st0,z60],g1,w1,by simp [Ps.st0,z60]⟩
      ·split at h
       ·split at h
        ·cases h
        ·rename_i n r1 hh
         have h1:=(head_T hh h0).2
         split at h
         ·cases h
         ·rename_i wl r2 hw
          obtain ⟨w1,w2,_⟩:=whr_good (N:=N) hw h1
          rw [fin_is h]
          exact ⟨by simp [Ps.st0,z60],by simp [Ps.st0,z60],by simp [Ps.st0,z60],by simp [Ps.st0,z60],w2,by simp [Ps.st0,z60],by simp [Ps.st0,z60],by simp [Ps.st0,z60],w1,by simp [Ps.st0,z60]⟩
       ·cases h
theorem read_good {N k:Nat} {x:S60} {ts:List S32} (h:Ps.read k ts=some x) (hT:TK N ts):GoodS N k x:=by
 unfold Ps.read at h
 split at h
 ·cases h
 ·split at h
  ·exact stmt_good h hT
  ·cases h
theorem GoodS.mod {N k:Nat} {x:S60} (h:GoodS N k x) (hk:k ≤ 90000):Mod x:=by
 have hB:BB k < 4611686018427387904:=by
  unfold BB
  have:k * k ≤ 90000 * 90000:=Nat.mul_le_mul hk hk
  rw [Nat.mul_assoc]
  omega
 refine ⟨by have:=h.n2;omega,by have:=h.n4;omega,by have:=h.n5;omega,by have:=h.n6;omega,by have:=h.n7;omega,fun e he => ?_⟩
 unfold allE at he
 simp only [List.mem_append,List.mem_flatten,List.mem_map] at he
 rcases he with ((he | he) | ⟨r,hr,he⟩) | ⟨s,hs,rfl⟩
 ·exact Nat.lt_of_le_of_lt (h.e5 e he) hB
 ·exact Nat.lt_of_le_of_lt (h.e7 e he) hB
 ·exact Nat.lt_of_le_of_lt (h.e4 r hr e he) hB
 ·exact Nat.lt_of_le_of_lt (h.e6 s hs).1 hB
theorem GoodS.names {N k:Nat} {x:S60} (h:GoodS N k x):∀ s ∈ namesOf x,s.size ≤ N:=by
 intro s hs
 unfold namesOf at hs
 simp only [List.mem_append,List.mem_map] at hs
 rcases hs with ⟨c,hc,rfl⟩ | ⟨c,hc,rfl⟩
 ·exact h.s2 c hc
 ·exact (h.e6 c hc).2
end Go.Proofs.YtcgdncpioafbdaaGreatDoor.Q
namespace Go.Proofs.YtcgdncpioafbdaaGreatDoor.Q
open Go Go.RowKit Go.Extern.Stop Go.Stop Go.Extern
theorem isTypeOf (v:Value) (w:World):(Extern.ReflectliteType.typeOf #[.iface 398 v]).run Tryz.prog w = .ok (.iface 323 (.agg #[.pointer (some ⟨9,398,none⟩)])) w:=by kernel_rfl
theorem isComparable (w : World) : ((Extern.ReflectliteType.method fun t => do Extern.Rtype.noPackHeld "Comparable" t; (fun a => Value.bool a.comparable) <$> typeInfo t) #[.agg #[.pointer (some ⟨9, 398, none⟩)]]).run Tryz.prog w = .ok (.bool true) w := by kernel_rfl
theorem isMethodComparable (v : Value) (w : World) : (Go.method 540 323 v "Comparable").run Tryz.prog w = .ok (393, v) w := by kernel_rfl
theorem methodUnwrap (v : Value) (w : World) : (Go.method 540 319 v "Unwrap").run Tryz.prog w = .ok (389, v) w := by kernel_rfl
theorem isComp:(Tryz.prog.info? 398).map (·.comparable)=some true:=by kernel_rfl
theorem isSize:(Tryz.prog.info? 400).map (·.size)=some 1:=by kernel_rfl
theorem noIsW (v:Value) (xT:TypeId) (w:World):(Instr.typeAssert (.iface 319 v) xT 325 true).run Tryz.prog w = .ok (.tuple #[.nilIface,.bool false]) w:=run_typeAssert_lacksB Tryz.underlying325 (by kernel_rfl) (by kernel_rfl) v xT w
theorem hasUnwrapW (v:Value) (xT:TypeId) (w:World):(Instr.typeAssert (.iface 319 v) xT 328 true).run Tryz.prog w = .ok (.tuple #[.iface 319 v,.bool true]) w:=run_typeAssert_hasB Tryz.underlying328 (by kernel_rfl) v xT w
set_option maxRecDepth 100000 in
theorem is_range (N:Nat) (b:Addr) (w:World) (h1:w.cell? ⟨N,2,none⟩=some (.iface 398 (.pointer (some b)))) :
  Calls Tryz.prog 124 #[.iface 319 (.pointer (some ⟨N,0,none⟩)),.iface 398 (.pointer (some b))] w fun e w' => e = .returned (.bool true)∧w'=w:=by
 obtain ⟨i,hi,hcmp⟩:=Option.map_eq_some_iff.1 isComp
 obtain ⟨j,hj,hjs⟩:=Option.map_eq_some_iff.1 isSize
 have h8:=@run_callFunc_extern Tryz.prog 208 _ Extern.ReflectliteType.typeOf Tryz.func208 (by kernel_rfl) (by kernel_rfl) (by kernel_rfl) (by kernel_rfl)
 have h32 := @run_callFunc_extern Tryz.prog 393 _ (Extern.ReflectliteType.method fun t => do Extern.Rtype.noPackHeld "Comparable" t; pure (.bool (← typeInfo t).comparable)) Tryz.func393 (by kernel_rfl) (by kernel_rfl) (by kernel_rfl) (by kernel_rfl)
 have tT:=isTypeOf
 have cT:=isComparable
 have mR:=isMethodComparable
 have mU:=methodUnwrap
 have nW:=noIsW
 have uW:=hasUnwrapW
 have heq:=run_eql_iface_ptr_same (P:=Tryz.prog) w b Tryz.underlying163 Tryz.underlying398 hi hcmp hj
 have hty:=run_eql_iface_types (P:=Tryz.prog) 319 398 (.pointer (some ⟨N,0,none⟩)) (.pointer (some b)) Tryz.underlying163 (by decide) w
 go_enter Tryz.func124,Tryz.ntmps124
 go_wp2
 refine wp_loop_rounds 2 ?_
 rw [rounds_succ]
 go_wp2
 rw [rounds_succ]
 go_wp2
 go_ret
 exact ⟨rfl,rfl⟩
set_option maxRecDepth 100000 in
theorem is_nil (b:Addr) (w:World) :
  Calls Tryz.prog 124 #[.nilIface,.iface 398 (.pointer (some b))] w fun e w' => e = .returned (.bool false)∧w'=w:=by
 have hn:=run_eql_iface_nil_left (P:=Tryz.prog) w 398 (.pointer (some b)) Tryz.underlying163
 go_enter Tryz.func124,Tryz.ntmps124
 go_wp2
 go_ret
 exact ⟨rfl,rfl⟩
end Go.Proofs.YtcgdncpioafbdaaGreatDoor.Q
namespace Go.Proofs.YtcgdncpioafbdaaGreatDoor.Q
open Go.RowKit Go.Proofs.YtcgdncpioafbdaaGreatDoorW.PrintWords Go.Proofs.YtcgdncpioafbdaaGreatDoorW.PrintLast Go.Proofs.YtcgdncpioafbdaaGreatDoorW.PrintMore
attribute [local go_sem] max2_int min2_int max_two min_two max_three min_three max_four min_four
set_option linter.unusedVariables false
set_option linter.unusedSimpArgs false
set_option maxHeartbeats 8000000 in
set_option maxRecDepth 100000 in
theorem lex_skip.calls (k:Nat) (a0:ByteArray) (r:ByteArray) (w:World) (h:lex_skip.f k a0=some r) (hG:GV w) :
  Calls Tryz.prog 55 #[.string a0] w fun e w' => e = .returned (.string r)∧Below w.heap.size w w':=by
 have HB:=Aside0.mk (Below.refl w.heap.size w)
 have H:(lex_skip.l0 k a0)=some r:=h
 clear h
 have H':=Aside0.mk H
 clear H
 go_enter Tryz.func55,Tryz.ntmps55
 go_wp2
 go_loopg [0] k (fun kq v0 w' => ∃ (x0_1:ByteArray),v0 = .string x0_1∧Aside0 (lex_skip.l0 kq x0_1=some r)∧Aside0 (kq ≤ k)∧Aside0 (Below w.heap.size w w'))
 case atStart => exact ⟨(a0),(by first | rfl | (simp;done) | (simp [*];done)),H',⟨Nat.le_refl _⟩,⟨by repeat (first | (with_reducible first | exact HB.out | apply below_alloc | apply pw_below_drewN | apply below_drew1) | exact HB.out)⟩⟩
 case round =>
  clear H'
  obtain ⟨x0_1,rfl,HA,HK1,HB⟩:=hrel
  cases gk with
  | zero => exact absurd HA.out (by simp [lex_skip.l0])
  | succ k1 =>
   have H:=HA.out
   clear HA
   simp only [lex_skip.l0] at H
   replace H:=Option.bind_eq_some_iff.mp H
   obtain ⟨t101,A20,H⟩:=H
   replace H:((strings_HasPrefix.f t101 (⟨#[45,45]⟩:ByteArray)).bind fun t102 => (if t102=true then ((strings_Cut.f t101 (⟨#[10]⟩:ByteArray)).bind fun bt103 => (lex_skip.l0 k1 bt103.2.1)) else (some t101)))=some r:=H
   have A2:=Aside0.mk A20
   clear A20
   replace H:=Option.bind_eq_some_iff.mp H
   obtain ⟨t102,A30,H⟩:=H
   replace H:(if t102=true then ((strings_Cut.f t101 (⟨#[10]⟩:ByteArray)).bind fun bt103 => (lex_skip.l0 k1 bt103.2.1)) else (some t101))=some r:=H
   have A3:=Aside0.mk A30
   clear A30
   by_cases c4:t102=true
   ·subst c4
    have H1:((strings_Cut.f t101 (⟨#[10]⟩:ByteArray)).bind fun bt103 => (lex_skip.l0 k1 bt103.2.1))=some r:=by rw [if_pos rfl] at H;exact H
    clear H
    have H:=H1
    clear H1
    replace H:=Option.bind_eq_some_iff.mp H
    obtain ⟨⟨t103,t104,t105⟩,A50,H⟩:=H
    replace H:(lex_skip.l0 k1 t104)=some r:=H
    have A5:=Aside0.mk A50
    clear A50
    have H':=Aside0.mk H
    clear H
    go_wp2_with (first | ((with_reducible refine gate_callee (f:=117) rfl ?_);refine goesL_ (some 4) rfl rfl Tryz.func117 (by kernel_rfl) rfl #[.string x0_1,.string (⟨#[32,9,10,13]⟩:ByteArray)] rfl (by (try simp only [List.map_toArray,List.map_cons,List.map_nil]);first | done | rfl | (simp only [List.length_drop,List.length_take];rfl)) ?_;(with_reducible refine (strings_TrimLeft.calls x0_1 (⟨#[32,9,10,13]⟩:ByteArray) t101 _ A2.out).mono ?_);rintro e w6 ⟨rfl,hb⟩;refine ⟨_,rfl,?_⟩;have n0_:=Aside0.mk (below_step (by repeat (first | (with_reducible first | exact HB.out | apply below_alloc | apply pw_below_drewN | apply below_drew1) | exact HB.out)) hb);clear HB;have HB:=n0_;clear n0_;(try clear hb);(try clear hb2);(try clear hk);(try clear hi)) | ((with_reducible refine gate_callee (f:=118) rfl ?_);refine goesL_ (some 6) rfl rfl Tryz.func118 (by kernel_rfl) rfl #[.string t101,.string (⟨#[45,45]⟩:ByteArray)] rfl (by (try simp only [List.map_toArray,List.map_cons,List.map_nil]);first | done | rfl | (simp only [List.length_drop,List.length_take];rfl)) ?_;(with_reducible refine (strings_HasPrefix.calls t101 (⟨#[45,45]⟩:ByteArray) true _ A3.out).mono ?_);rintro e w' ⟨rfl,⟨nd,rfl⟩⟩;refine ⟨_,rfl,?_⟩) | ((with_reducible refine gate_callee (f:=119) rfl ?_);refine goesL_ (some 11) rfl rfl Tryz.func119 (by kernel_rfl) rfl #[.string t101,.string (⟨#[10]⟩:ByteArray)] rfl (by (try simp only [List.map_toArray,List.map_cons,List.map_nil]);first | done | rfl | (simp only [List.length_drop,List.length_take];rfl)) ?_;(with_reducible refine (strings_Cut.calls t101 (⟨#[10]⟩:ByteArray) t103 t104 t105 _ A5.out (GV.below hG (by repeat (first | (with_reducible first | exact HB.out | apply below_alloc | apply pw_below_drewN | apply below_drew1) | exact HB.out)))).mono ?_);rintro e w7 ⟨rfl,hb⟩;refine ⟨_,rfl,?_⟩;have n0_:=Aside0.mk (below_step (by repeat (first | (with_reducible first | exact HB.out | apply below_alloc | apply pw_below_drewN | apply below_drew1) | exact HB.out)) hb);clear HB;have HB:=n0_;clear n0_;(try clear hb);(try clear hb2);(try clear hk);(try clear hi)))
    go_roundg k1
    case measure => have:=HK1.out;omega
    case rel => exact ⟨(t104),(by first | rfl | (simp;done) | (simp [*];done)),H',⟨by have:=HK1.out;omega⟩,⟨by repeat (first | (with_reducible first | exact HB.out | apply below_alloc | apply pw_below_drewN | apply below_drew1) | exact HB.out)⟩⟩
   ·replace c4:=Bool.eq_false_iff.mpr c4
    subst c4
    have H1:(some t101)=some r:=by rw [if_neg (show ¬ (false=true) by decide)] at H;exact H
    clear H
    have H:=H1
    clear H1
    obtain rfl:=Option.some.inj H
    go_wp2_with (first | ((with_reducible refine gate_callee (f:=117) rfl ?_);refine goesL_ (some 4) rfl rfl Tryz.func117 (by kernel_rfl) rfl #[.string x0_1,.string (⟨#[32,9,10,13]⟩:ByteArray)] rfl (by (try simp only [List.map_toArray,List.map_cons,List.map_nil]);first | done | rfl | (simp only [List.length_drop,List.length_take];rfl)) ?_;(with_reducible refine (strings_TrimLeft.calls x0_1 (⟨#[32,9,10,13]⟩:ByteArray) t101 _ A2.out).mono ?_);rintro e w8 ⟨rfl,hb⟩;refine ⟨_,rfl,?_⟩;have n0_:=Aside0.mk (below_step (by repeat (first | (with_reducible first | exact HB.out | apply below_alloc | apply pw_below_drewN | apply below_drew1) | exact HB.out)) hb);clear HB;have HB:=n0_;clear n0_;(try clear hb);(try clear hb2);(try clear hk);(try clear hi)) | ((with_reducible refine gate_callee (f:=118) rfl ?_);refine goesL_ (some 6) rfl rfl Tryz.func118 (by kernel_rfl) rfl #[.string t101,.string (⟨#[45,45]⟩:ByteArray)] rfl (by (try simp only [List.map_toArray,List.map_cons,List.map_nil]);first | done | rfl | (simp only [List.length_drop,List.length_take];rfl)) ?_;(with_reducible refine (strings_HasPrefix.calls t101 (⟨#[45,45]⟩:ByteArray) false _ A3.out).mono ?_);rintro e w' ⟨rfl,⟨nd,rfl⟩⟩;refine ⟨_,rfl,?_⟩))
    go_ret
    exact ⟨by first | rfl | (simp [errW_none,errW_some] <;> rfl) | (simp [*,errW_none,errW_some] <;> rfl),by repeat (first | (with_reducible first | exact HB.out | apply below_alloc | apply pw_below_drewN | apply below_drew1) | exact HB.out)⟩
set_option maxHeartbeats 8000000 in
set_option maxRecDepth 100000 in
theorem lex_run.calls (a0:ByteArray) (a1:ByteArray) (r:Int) (w:World) (h:lex_run.f a0 a1=some r) :
  Calls Tryz.prog 121 #[.string a0,.string a1] w fun e w' => e = .returned (.int .i64 r)∧Below w.heap.size w w':=by
 have HB:=Aside0.mk (Below.refl w.heap.size w)
 have H:((lex_cutLeft.f a0 a1).bind fun t106 => (some (wrap64 ((a0.size:Int) - (t106.size:Int)))))=some r:=h
 clear h
 replace H:=Option.bind_eq_some_iff.mp H
 obtain ⟨t106,A30,H⟩:=H
 replace H:(some (wrap64 ((a0.size:Int) - (t106.size:Int))))=some r:=H
 have A3:=Aside0.mk A30
 clear A30
 obtain rfl:=Option.some.inj H
 go_enter Tryz.func121,Tryz.ntmps121
 go_wp2_with (first | ((with_reducible refine gate_callee (f:=203) rfl ?_);refine goesL_ (some 9) rfl rfl Tryz.func203 (by kernel_rfl) rfl #[.string a0,.string a1] rfl (by (try simp only [List.map_toArray,List.map_cons,List.map_nil]);first | done | rfl | (simp only [List.length_drop,List.length_take];rfl)) ?_;(with_reducible refine (lex_cutLeft.calls a0 a1 t106 _ A3.out).mono ?_);rintro e w4 ⟨rfl,hb⟩;refine ⟨_,rfl,?_⟩;have n0_:=Aside0.mk (below_step (by repeat (first | (with_reducible first | exact HB.out | apply below_alloc | apply pw_below_drewN | apply below_drew1) | exact HB.out)) hb);clear HB;have HB:=n0_;clear n0_;(try clear hb);(try clear hb2);(try clear hk);(try clear hi)))
 go_ret
 exact ⟨by first | rfl | (simp [errW_none,errW_some] <;> rfl) | (simp [*,errW_none,errW_some] <;> rfl),by repeat (first | (with_reducible first | exact HB.out | apply below_alloc | apply pw_below_drewN | apply below_drew1) | exact HB.out)⟩
set_option maxHeartbeats 8000000 in
set_option maxRecDepth 100000 in
theorem lex_word.calls (a0:ByteArray) (r1:Int) (r2:ByteArray) (r3:Int) (r4:Int) (r5:Int) (w:World) (h:lex_word.f a0=some (r1,r2,r3,r4,r5)) :
  Calls Tryz.prog 58 #[.string a0] w fun e w' => e = .returned (.tuple #[.agg #[.int .i64 r1,.string r2,.int .i64 r3],.int .i64 r4,.int .i64 r5])∧Below w.heap.size w w':=by
 have hu32:=Tryz.underlying32
 have HB:=Aside0.mk (Below.refl w.heap.size w)
 have H:((lex_run.f a0 (⟨#[97,98,99,100,101,102,103,104,105,106,107,108,109,110,111,112,113,114,115,116,117,118,119,120,121,122,65,66,67,68,69,70,71,72,73,74,75,76,77,78,79,80,81,82,83,84,85,86,87,88,89,90,48,49,50,51,52,53,54,55,56,57,95]⟩:ByteArray)).bind fun t108 => (if t108 > 30 then (some (0,(⟨#[]⟩:ByteArray),0,0,28)) else (if 0 ≤ t108 then (if t108 ≤ (a0.size:Int) then ((strings_ToLower.f (a0.extract 0 (t108:Int).toNat)).bind fun t109 => (some (1,t109,0,t108,0))) else (none)) else (none))))=some (r1,r2,r3,r4,r5):=h
 clear h
 replace H:=Option.bind_eq_some_iff.mp H
 obtain ⟨t108,A20,H⟩:=H
 replace H:(if t108 > 30 then (some (0,(⟨#[]⟩:ByteArray),0,0,28)) else (if 0 ≤ t108 then (if t108 ≤ (a0.size:Int) then ((strings_ToLower.f (a0.extract 0 (t108:Int).toNat)).bind fun t109 => (some (1,t109,0,t108,0))) else (none)) else (none)))=some (r1,r2,r3,r4,r5):=H
 have A2:=Aside0.mk A20
 clear A20
 by_cases c3:t108 > 30
 ·rw [if_pos c3] at H
  have c3b0:decide (30 < t108)=true:=decide_eq_true c3
  clear c3
  simp only [Option.some.injEq,Prod.mk.injEq] at H
  obtain ⟨rfl,rfl,rfl,rfl,rfl⟩:=H
  go_enter Tryz.func58,Tryz.ntmps58
  go_wp2_with (first | ((with_reducible refine gate_dst (N:=2) rfl ?_);refine box_event ?hg (N:=2) ?hd (cs:=#[.int .i64 0,.string (⟨#[]⟩:ByteArray),.int .i64 0]) (t:=32) ?hr ?_;(case hd => rfl);(case hg => rfl);(case hr => first | (go_simp;done) | (go_simp;rfl));intro gb107 hg w4 hbox hb;have n0_:=Aside0.mk (below_step (by repeat (first | (with_reducible first | exact HB.out | apply below_alloc | apply pw_below_drewN | apply below_drew1) | exact HB.out)) hb);have n1_:=Aside0.mk (hbox);have n2_:=Aside0.mk ((by rw [hg];exact (below_size (by repeat (first | (with_reducible first | exact HB.out | apply below_alloc | apply pw_below_drewN | apply below_drew1) | exact HB.out))):w.heap.size ≤ gb107));have n3_:=Aside0.mk ((by rw [hg];exact (below_size (by repeat (first | (with_reducible first | exact HB.out | apply below_alloc | apply pw_below_drewN | apply below_drew1) | exact HB.out))):w.heap.size ≤ gb107));clear HB;have HB:=n0_;have BK107:=n1_;have GW107:=n2_;have GE107:=n3_;clear n0_ n1_ n2_ n3_;clear hb hbox hg) | ((with_reducible refine gate_callee (f:=121) rfl ?_);refine goesL_ (some 7) rfl rfl Tryz.func121 (by kernel_rfl) rfl #[.string a0,.string (⟨#[97,98,99,100,101,102,103,104,105,106,107,108,109,110,111,112,113,114,115,116,117,118,119,120,121,122,65,66,67,68,69,70,71,72,73,74,75,76,77,78,79,80,81,82,83,84,85,86,87,88,89,90,48,49,50,51,52,53,54,55,56,57,95]⟩:ByteArray)] rfl (by (try simp only [List.map_toArray,List.map_cons,List.map_nil]);first | done | rfl | (simp only [List.length_drop,List.length_take];rfl)) ?_;(with_reducible refine (lex_run.calls a0 (⟨#[97,98,99,100,101,102,103,104,105,106,107,108,109,110,111,112,113,114,115,116,117,118,119,120,121,122,65,66,67,68,69,70,71,72,73,74,75,76,77,78,79,80,81,82,83,84,85,86,87,88,89,90,48,49,50,51,52,53,54,55,56,57,95]⟩:ByteArray) t108 _ A2.out).mono ?_);rintro e w5 ⟨rfl,hb⟩;refine ⟨_,rfl,?_⟩;have n0_:=Aside0.mk (blk_below (g:=gb107) (o:=.cells #[.int .i64 0,.string (⟨#[]⟩:ByteArray),.int .i64 0] 32 (0,0)) (by (with_reducible repeat (first | refine blk_drewN ?_ _ | refine blk_drew ?_ | refine blk_alloc ?_ _));exact BK107.out) hb);have n1_:=Aside0.mk (below_step (by repeat (first | (with_reducible first | exact HB.out | apply below_alloc | apply pw_below_drewN | apply below_drew1 | refine below_set ?_ GE107.out) | exact HB.out)) hb);clear BK107;clear HB;have BK107:=n0_;have HB:=n1_;clear n0_ n1_;(try clear hb);(try clear hb2);(try clear hk);(try clear hi);have hcz6_0:w5.cell? ⟨gb107,0,none⟩=some (.int .i64 0):=(blk_cell BK107.out 0).trans rfl;have hcz6_1:w5.cell? ⟨gb107,1,none⟩=some (.string (⟨#[]⟩:ByteArray)):=(blk_cell BK107.out 1).trans rfl;have hcz6_2:w5.cell? ⟨gb107,2,none⟩=some (.int .i64 0):=(blk_cell BK107.out 2).trans rfl;have hfz6_0:=blk_frozen BK107.out 0;have hfz6_1:=blk_frozen BK107.out 1;have hfz6_2:=blk_frozen BK107.out 2))
  refine bodyPost_ret (results_ctt rfl _ _ gb107 32 #[.int .i64 0,.string (⟨#[]⟩:ByteArray),.int .i64 0] (0,0) _ rfl (by (with_reducible repeat (first | refine blk_drewN ?_ _ | refine blk_drew ?_ | refine blk_alloc ?_ _));refine blk_put (cs:=#[.int .i64 0,.string (⟨#[]⟩:ByteArray),.int .i64 0]) ?_ 2 _ rfl;(with_reducible repeat (first | refine blk_drewN ?_ _ | refine blk_drew ?_ | refine blk_alloc ?_ _));refine blk_put (cs:=#[.int .i64 0,.string (⟨#[]⟩:ByteArray),.int .i64 0]) ?_ 1 _ rfl;(with_reducible repeat (first | refine blk_drewN ?_ _ | refine blk_drew ?_ | refine blk_alloc ?_ _));refine blk_put (cs:=#[.int .i64 0,.string (⟨#[]⟩:ByteArray),.int .i64 0]) ?_ 0 _ rfl;(with_reducible repeat (first | refine blk_drewN ?_ _ | refine blk_drew ?_ | refine blk_alloc ?_ _));exact BK107.out) Tryz.underlying32 rfl (by kernel_rfl)) rfl ?_
  exact ⟨by first | rfl | (simp [errW_none,errW_some] <;> rfl) | (simp [*,errW_none,errW_some] <;> rfl),by repeat (first | (with_reducible first | exact HB.out | apply below_alloc | apply pw_below_drewN | apply below_drew1 | refine below_set ?_ GE107.out) | exact HB.out)⟩
 ·rw [if_neg c3] at H
  have c3b0:decide (30 < t108)=false:=decide_eq_false c3
  clear c3
  by_cases c7:0 ≤ t108
  ·rw [if_pos c7] at H
   have c7b0:=eq_true c7
   have c7b1:decide (0 ≤ t108)=true:=decide_eq_true c7
   clear c7
   by_cases c8:t108 ≤ (a0.size:Int)
   ·rw [if_pos c8] at H
    have c8b0:=eq_true c8
    have c8b1:decide (t108 ≤ (a0.size:Int))=true:=decide_eq_true c8
    clear c8
    replace H:=Option.bind_eq_some_iff.mp H
    obtain ⟨t109,A90,H⟩:=H
    replace H:(some (1,t109,0,t108,0))=some (r1,r2,r3,r4,r5):=H
    have A9:=Aside0.mk A90
    clear A90
    simp only [Option.some.injEq,Prod.mk.injEq] at H
    obtain ⟨rfl,rfl,rfl,rfl,rfl⟩:=H
    go_enter Tryz.func58,Tryz.ntmps58
    go_wp2_with (first | ((with_reducible refine gate_dst (N:=2) rfl ?_);refine box_event ?hg (N:=2) ?hd (cs:=#[.int .i64 0,.string (⟨#[]⟩:ByteArray),.int .i64 0]) (t:=32) ?hr ?_;(case hd => rfl);(case hg => rfl);(case hr => first | (go_simp;done) | (go_simp;rfl));intro gb107 hg w10 hbox hb;have n0_:=Aside0.mk (below_step (by repeat (first | (with_reducible first | exact HB.out | apply below_alloc | apply pw_below_drewN | apply below_drew1) | exact HB.out)) hb);have n1_:=Aside0.mk (hbox);have n2_:=Aside0.mk ((by rw [hg];exact (below_size (by repeat (first | (with_reducible first | exact HB.out | apply below_alloc | apply pw_below_drewN | apply below_drew1) | exact HB.out))):w.heap.size ≤ gb107));have n3_:=Aside0.mk ((by rw [hg];exact (below_size (by repeat (first | (with_reducible first | exact HB.out | apply below_alloc | apply pw_below_drewN | apply below_drew1) | exact HB.out))):w.heap.size ≤ gb107));clear HB;have HB:=n0_;have BK107:=n1_;have GW107:=n2_;have GE107:=n3_;clear n0_ n1_ n2_ n3_;clear hb hbox hg) | ((with_reducible refine gate_callee (f:=121) rfl ?_);refine goesL_ (some 7) rfl rfl Tryz.func121 (by kernel_rfl) rfl #[.string a0,.string (⟨#[97,98,99,100,101,102,103,104,105,106,107,108,109,110,111,112,113,114,115,116,117,118,119,120,121,122,65,66,67,68,69,70,71,72,73,74,75,76,77,78,79,80,81,82,83,84,85,86,87,88,89,90,48,49,50,51,52,53,54,55,56,57,95]⟩:ByteArray)] rfl (by (try simp only [List.map_toArray,List.map_cons,List.map_nil]);first | done | rfl | (simp only [List.length_drop,List.length_take];rfl)) ?_;(with_reducible refine (lex_run.calls a0 (⟨#[97,98,99,100,101,102,103,104,105,106,107,108,109,110,111,112,113,114,115,116,117,118,119,120,121,122,65,66,67,68,69,70,71,72,73,74,75,76,77,78,79,80,81,82,83,84,85,86,87,88,89,90,48,49,50,51,52,53,54,55,56,57,95]⟩:ByteArray) t108 _ A2.out).mono ?_);rintro e w11 ⟨rfl,hb⟩;refine ⟨_,rfl,?_⟩;have n0_:=Aside0.mk (blk_below (g:=gb107) (o:=.cells #[.int .i64 0,.string (⟨#[]⟩:ByteArray),.int .i64 0] 32 (0,0)) (by (with_reducible repeat (first | refine blk_drewN ?_ _ | refine blk_drew ?_ | refine blk_alloc ?_ _));exact BK107.out) hb);have n1_:=Aside0.mk (below_step (by repeat (first | (with_reducible first | exact HB.out | apply below_alloc | apply pw_below_drewN | apply below_drew1 | refine below_set ?_ GE107.out) | exact HB.out)) hb);clear BK107;clear HB;have BK107:=n0_;have HB:=n1_;clear n0_ n1_;(try clear hb);(try clear hb2);(try clear hk);(try clear hi)) | ((with_reducible refine gate_callee (f:=122) rfl ?_);refine goesL_ (some 14) rfl rfl Tryz.func122 (by kernel_rfl) rfl #[.string (a0.extract 0 (t108:Int).toNat)] rfl (by (try simp only [List.map_toArray,List.map_cons,List.map_nil]);first | done | rfl | (simp only [List.length_drop,List.length_take];rfl)) ?_;(with_reducible refine (strings_ToLower.calls (a0.extract 0 (t108:Int).toNat) t109 _ A9.out).mono ?_);rintro e w12 ⟨rfl,hb⟩;refine ⟨_,rfl,?_⟩;have n0_:=Aside0.mk (blk_below (g:=gb107) (o:=.cells #[.int .i64 0,.string (⟨#[]⟩:ByteArray),.int .i64 0] 32 (0,0)) (by (with_reducible repeat (first | refine blk_drewN ?_ _ | refine blk_drew ?_ | refine blk_alloc ?_ _));exact BK107.out) hb);have n1_:=Aside0.mk (below_step (by repeat (first | (with_reducible first | exact HB.out | apply below_alloc | apply pw_below_drewN | apply below_drew1 | refine below_set ?_ GE107.out) | exact HB.out)) hb);clear BK107;clear HB;have BK107:=n0_;have HB:=n1_;clear n0_ n1_;(try clear hb);(try clear hb2);(try clear hk);(try clear hi);have hcz13_0:w12.cell? ⟨gb107,0,none⟩=some (.int .i64 0):=(blk_cell BK107.out 0).trans rfl;have hcz13_1:w12.cell? ⟨gb107,1,none⟩=some (.string (⟨#[]⟩:ByteArray)):=(blk_cell BK107.out 1).trans rfl;have hcz13_2:w12.cell? ⟨gb107,2,none⟩=some (.int .i64 0):=(blk_cell BK107.out 2).trans rfl;have hfz13_0:=blk_frozen BK107.out 0;have hfz13_1:=blk_frozen BK107.out 1;have hfz13_2:=blk_frozen BK107.out 2))
    refine bodyPost_ret (results_ctt rfl _ _ gb107 32 #[.int .i64 1,.string t109,.int .i64 0] (0,0) _ rfl (by (with_reducible repeat (first | refine blk_drewN ?_ _ | refine blk_drew ?_ | refine blk_alloc ?_ _));refine blk_put (cs:=#[.int .i64 1,.string t109,.int .i64 0]) ?_ 2 _ rfl;(with_reducible repeat (first | refine blk_drewN ?_ _ | refine blk_drew ?_ | refine blk_alloc ?_ _));refine blk_put (cs:=#[.int .i64 1,.string (⟨#[]⟩:ByteArray),.int .i64 0]) ?_ 1 _ rfl;(with_reducible repeat (first | refine blk_drewN ?_ _ | refine blk_drew ?_ | refine blk_alloc ?_ _));refine blk_put (cs:=#[.int .i64 0,.string (⟨#[]⟩:ByteArray),.int .i64 0]) ?_ 0 _ rfl;(with_reducible repeat (first | refine blk_drewN ?_ _ | refine blk_drew ?_ | refine blk_alloc ?_ _));exact BK107.out) Tryz.underlying32 rfl (by kernel_rfl)) rfl ?_
    exact ⟨by first | rfl | (simp [errW_none,errW_some] <;> rfl) | (simp [*,errW_none,errW_some] <;> rfl),by repeat (first | (with_reducible first | exact HB.out | apply below_alloc | apply pw_below_drewN | apply below_drew1 | refine below_set ?_ GE107.out) | exact HB.out)⟩
   ·rw [if_neg c8] at H
    exact absurd H (by simp)
  ·rw [if_neg c7] at H
   exact absurd H (by simp)
set_option maxHeartbeats 8000000 in
set_option maxRecDepth 100000 in
theorem lex_has.calls (a0:ByteArray) (a1:Int) (r:Bool) (w:World) (h:lex_has.f a0 a1=some r) :
  Calls Tryz.prog 57 #[.string a0,.int .u8 a1] w fun e w' => e = .returned (.bool r)∧Drawn0 w w':=by
 have H:((strings_IndexByte.f a0 a1).bind fun t110 => (some (decide (t110 ≥ 0))))=some r:=h
 clear h
 replace H:=Option.bind_eq_some_iff.mp H
 obtain ⟨t110,A30,H⟩:=H
 replace H:(some (decide (t110 ≥ 0)))=some r:=H
 have A3:=Aside0.mk A30
 clear A30
 obtain rfl:=Option.some.inj H
 go_enter Tryz.func57,Tryz.ntmps57
 go_wp2_with (first | ((with_reducible refine gate_callee (f:=120) rfl ?_);refine goesL_ (some 7) rfl rfl Tryz.func120 (by kernel_rfl) rfl #[.string a0,.int .u8 a1] rfl (by (try simp only [List.map_toArray,List.map_cons,List.map_nil]);first | done | rfl | (simp only [List.length_drop,List.length_take];rfl)) ?_;(with_reducible refine (strings_IndexByte.calls a0 a1 t110 _ A3.out).mono ?_);rintro e w' ⟨rfl,⟨nd,rfl⟩⟩;refine ⟨_,rfl,?_⟩))
 go_ret
 exact ⟨by first | rfl | (simp;done) | (simp [*];done),by repeat (first | exact Drawn0.refl _ | apply Drawn0.step)⟩
set_option maxHeartbeats 8000000 in
set_option maxRecDepth 100000 in
theorem lex_sign.calls (k:Nat) (a0:ByteArray) (r1:Int) (r2:ByteArray) (r3:Int) (r4:Int) (r5:Int) (w:World) (h:lex_sign.f k a0=some (r1,r2,r3,r4,r5)) :
  Calls Tryz.prog 56 #[.string a0] w fun e w' => e = .returned (.tuple #[.agg #[.int .i64 r1,.string r2,.int .i64 r3],.int .i64 r4,.int .i64 r5])∧Below w.heap.size w w':=by
 have hu32:=Tryz.underlying32
 have HB:=Aside0.mk (Below.refl w.heap.size w)
 have H:(if (a0.size:Int) > 1 then (if 0 ≤ 2 then (if 2 ≤ (a0.size:Int) then (if (a0.extract 0 2).toList=([60,61]:List UInt8) then (lex_sign.j0 k a0 (a0.extract 0 2) ((a0.extract 0 2).toList == ([60,61]:List UInt8))) else (if (a0.extract 0 2).toList=([62,61]:List UInt8) then (lex_sign.j0 k a0 (a0.extract 0 2) ((a0.extract 0 2).toList == ([62,61]:List UInt8))) else (if (a0.extract 0 2).toList=([60,62]:List UInt8) then (lex_sign.j0 k a0 (a0.extract 0 2) ((a0.extract 0 2).toList == ([60,62]:List UInt8))) else (lex_sign.j0 k a0 (a0.extract 0 2) ((a0.extract 0 2).toList == ([124,124]:List UInt8)))))) else (none)) else (none)) else (if 0 < (a0.size:Int) then ((lex_has.f (⟨#[40,41,44,42,43,45,47,37,61,60,62,59]⟩:ByteArray) (bt a0 0)).bind fun t113 => (if t113=true then (if 0 ≤ 1 then (if 1 ≤ (a0.size:Int) then (some (4,a0.extract 0 1,0,1,0)) else (none)) else (none)) else (some (0,(⟨#[]⟩:ByteArray),0,0,20)))) else (none)))=some (r1,r2,r3,r4,r5):=h
 clear h
 by_cases c2:(a0.size:Int) > 1
 ·rw [if_pos c2] at H
  have c2b0:decide (1 < (a0.size:Int))=true:=decide_eq_true c2
  have c2b1:decide (1 < a0.size)=true:=decide_eq_true (by omega)
  clear c2
  by_cases c3:0 ≤ 2
  ·rw [if_pos c3] at H
   have c3b0:=eq_true c3
   have c3b1:decide (0 ≤ 2)=true:=decide_eq_true c3
   clear c3
   by_cases c4:2 ≤ (a0.size:Int)
   ·rw [if_pos c4] at H
    have c4b0:=eq_true c4
    have c4b1:decide (2 ≤ (a0.size:Int))=true:=decide_eq_true c4
    clear c4
    have HC5:=Aside0.mk H
    clear H
    go_enter Tryz.func56,Tryz.ntmps56
    go_upto_if 12 with (first | ((with_reducible refine gate_dst (N:=2) rfl ?_);refine box_event ?hg (N:=2) ?hd (cs:=#[.int .i64 0,.string (⟨#[]⟩:ByteArray),.int .i64 0]) (t:=32) ?hr ?_;(case hd => rfl);(case hg => rfl);(case hr => first | (go_simp;done) | (go_simp;rfl));intro gb111 hg w6 hbox hb;have n0_:=Aside0.mk (below_step (by repeat (first | (with_reducible first | exact HB.out | apply below_alloc | apply pw_below_drewN | apply below_drew1) | exact HB.out)) hb);have n1_:=Aside0.mk (hbox);have n2_:=Aside0.mk ((by rw [hg];exact (below_size (by repeat (first | (with_reducible first | exact HB.out | apply below_alloc | apply pw_below_drewN | apply below_drew1) | exact HB.out))):w.heap.size ≤ gb111));have n3_:=Aside0.mk ((by rw [hg];exact (below_size (by repeat (first | (with_reducible first | exact HB.out | apply below_alloc | apply pw_below_drewN | apply below_drew1) | exact HB.out))):w.heap.size ≤ gb111));clear HB;have HB:=n0_;have BK111:=n1_;have GW111:=n2_;have GE111:=n3_;clear n0_ n1_ n2_ n3_;clear hb hbox hg))
    (try simp only [Act.put,List.setIfInBounds_toArray,List.set_cons_zero,List.set_cons_succ])
    go_cut [12] (fun v12 wc => ∃ (kq:Nat) (x12_4:Bool),v12 = .bool x12_4∧Aside0 (lex_sign.j0 kq a0 (a0.extract 0 2) x12_4=some (r1,r2,r3,r4,r5))∧Aside0 (kq ≤ k)∧Aside0 (wc.heap[gb111]? = some (.cells #[.int .i64 0,.string (⟨#[]⟩:ByteArray),.int .i64 0] 32 (0,0)))∧Aside0 (Below w.heap.size w wc))
    case first =>
     have H:=HC5.out
     clear HC5
     by_cases c7:(a0.extract 0 2).toList=([60,61]:List UInt8)
     ·rw [if_pos c7] at H
      have c7b0:((a0.extract 0 2).toList == ([60,61]:List UInt8))=true:=beq_iff_eq.mpr c7
      have c7b1:((a0.extract 0 2).toList != ([60,61]:List UInt8))=false:=bne_eq_false_iff_eq.mpr c7
      clear c7
      (first | rw [c7b0] | (simp only [i64_w,i32_w];rw [c7b0]) | skip)
      have H':=Aside0.mk H
      clear H
      go_wp2
      go_meet
      case rel => exact ⟨_,(((a0.extract 0 2).toList == ([60,61]:List UInt8))),(by first | rfl | (simp;done) | (simp [*];done)),H',⟨by first | omega | exact Nat.le_refl _⟩,⟨by (with_reducible repeat (first | refine blk_drewN ?_ _ | refine blk_drew ?_ | refine blk_alloc ?_ _));exact BK111.out⟩,⟨by repeat (first | (with_reducible first | exact HB.out | apply below_alloc | apply pw_below_drewN | apply below_drew1 | refine below_set ?_ GE111.out) | exact HB.out)⟩⟩
     ·rw [if_neg c7] at H
      have c7b0:((a0.extract 0 2).toList == ([60,61]:List UInt8))=false:=beq_eq_false_iff_ne.mpr c7
      have c7b1:((a0.extract 0 2).toList != ([60,61]:List UInt8))=true:=bne_iff_ne.mpr c7
      (first | rw [c7b0] | (simp only [i64_w,i32_w];rw [c7b0]) | skip)
      by_cases c8:(a0.extract 0 2).toList=([62,61]:List UInt8)
      ·rw [if_pos c8] at H
       have c8b0:((a0.extract 0 2).toList == ([62,61]:List UInt8))=true:=beq_iff_eq.mpr c8
       have c8b1:((a0.extract 0 2).toList != ([62,61]:List UInt8))=false:=bne_eq_false_iff_eq.mpr c8
       clear c8
       have H':=Aside0.mk H
       clear H
       go_wp2
       go_meet
       case rel => exact ⟨_,(((a0.extract 0 2).toList == ([62,61]:List UInt8))),(by first | rfl | (simp;done) | (simp [*];done)),H',⟨by first | omega | exact Nat.le_refl _⟩,⟨by (with_reducible repeat (first | refine blk_drewN ?_ _ | refine blk_drew ?_ | refine blk_alloc ?_ _));exact BK111.out⟩,⟨by repeat (first | (with_reducible first | exact HB.out | apply below_alloc | apply pw_below_drewN | apply below_drew1 | refine below_set ?_ GE111.out) | exact HB.out)⟩⟩
      ·rw [if_neg c8] at H
       have c8b0:((a0.extract 0 2).toList == ([62,61]:List UInt8))=false:=beq_eq_false_iff_ne.mpr c8
       have c8b1:((a0.extract 0 2).toList != ([62,61]:List UInt8))=true:=bne_iff_ne.mpr c8
       by_cases c9:(a0.extract 0 2).toList=([60,62]:List UInt8)
       ·rw [if_pos c9] at H
        have c9b0:((a0.extract 0 2).toList == ([60,62]:List UInt8))=true:=beq_iff_eq.mpr c9
        have c9b1:((a0.extract 0 2).toList != ([60,62]:List UInt8))=false:=bne_eq_false_iff_eq.mpr c9
        clear c9
        have H':=Aside0.mk H
        clear H
        go_wp2
        go_meet
        case rel => exact ⟨_,(((a0.extract 0 2).toList == ([60,62]:List UInt8))),(by first | rfl | (simp;done) | (simp [*];done)),H',⟨by first | omega | exact Nat.le_refl _⟩,⟨by (with_reducible repeat (first | refine blk_drewN ?_ _ | refine blk_drew ?_ | refine blk_alloc ?_ _));exact BK111.out⟩,⟨by repeat (first | (with_reducible first | exact HB.out | apply below_alloc | apply pw_below_drewN | apply below_drew1 | refine below_set ?_ GE111.out) | exact HB.out)⟩⟩
       ·rw [if_neg c9] at H
        have c9b0:((a0.extract 0 2).toList == ([60,62]:List UInt8))=false:=beq_eq_false_iff_ne.mpr c9
        have c9b1:((a0.extract 0 2).toList != ([60,62]:List UInt8))=true:=bne_iff_ne.mpr c9
        have H':=Aside0.mk H
        clear H
        go_wp2
        go_meet
        case rel => exact ⟨_,(((a0.extract 0 2).toList == ([124,124]:List UInt8))),(by first | rfl | (simp;done) | (simp [*];done)),H',⟨by first | omega | exact Nat.le_refl _⟩,⟨by (with_reducible repeat (first | refine blk_drewN ?_ _ | refine blk_drew ?_ | refine blk_alloc ?_ _));exact BK111.out⟩,⟨by repeat (first | (with_reducible first | exact HB.out | apply below_alloc | apply pw_below_drewN | apply below_drew1 | refine below_set ?_ GE111.out) | exact HB.out)⟩⟩
    case rest =>
     clear HC5
     try clear c2
     try clear c2b0
     try clear c2b1
     try clear p2
     try clear c3
     try clear c3b0
     try clear c3b1
     try clear c4
     try clear c4b0
     try clear c4b1
     try clear c5
     try clear c7
     try clear c7b0
     try clear c7b1
     try clear c8
     try clear c8b0
     try clear c8b1
     try clear c9
     try clear c9b0
     try clear c9b1
     obtain ⟨kq,x12_4,rfl,HA,HJ4,BK111,HB⟩:=hcut
     cases kq with
     | zero => exact absurd HA.out (by simp [lex_sign.j0])
     | succ kj4 =>
      have H:=HA.out
      clear HA
      simp only [lex_sign.j0] at H
      by_cases c10:x12_4=true
      ·subst c10
       have H1:(some (4,(a0.extract 0 2),0,2,0))=some (r1,r2,r3,r4,r5):=by rw [if_pos rfl] at H;exact H
       clear H
       have H:=H1
       clear H1
       simp only [Option.some.injEq,Prod.mk.injEq] at H
       obtain ⟨rfl,rfl,rfl,rfl,rfl⟩:=H
       have hcz11_0:wc.cell? ⟨gb111,0,none⟩=some (.int .i64 0):=(blk_cell BK111.out 0).trans rfl
       have hcz11_1:wc.cell? ⟨gb111,1,none⟩=some (.string (⟨#[]⟩:ByteArray)):=(blk_cell BK111.out 1).trans rfl
       have hcz11_2:wc.cell? ⟨gb111,2,none⟩=some (.int .i64 0):=(blk_cell BK111.out 2).trans rfl
       have hfz11_0:=blk_frozen BK111.out 0
       have hfz11_1:=blk_frozen BK111.out 1
       have hfz11_2:=blk_frozen BK111.out 2
       go_wp2
       refine bodyPost_ret (results_ctt rfl _ _ gb111 32 #[.int .i64 4,.string (a0.extract 0 2),.int .i64 0] (0,0) _ rfl (by (with_reducible repeat (first | refine blk_drewN ?_ _ | refine blk_drew ?_ | refine blk_alloc ?_ _));refine blk_put (cs:=#[.int .i64 4,.string (a0.extract 0 2),.int .i64 0]) ?_ 2 _ rfl;(with_reducible repeat (first | refine blk_drewN ?_ _ | refine blk_drew ?_ | refine blk_alloc ?_ _));refine blk_put (cs:=#[.int .i64 4,.string (⟨#[]⟩:ByteArray),.int .i64 0]) ?_ 1 _ rfl;(with_reducible repeat (first | refine blk_drewN ?_ _ | refine blk_drew ?_ | refine blk_alloc ?_ _));refine blk_put (cs:=#[.int .i64 0,.string (⟨#[]⟩:ByteArray),.int .i64 0]) ?_ 0 _ rfl;(with_reducible repeat (first | refine blk_drewN ?_ _ | refine blk_drew ?_ | refine blk_alloc ?_ _));exact BK111.out) Tryz.underlying32 rfl (by kernel_rfl)) rfl ?_
       exact ⟨by first | rfl | (simp [errW_none,errW_some] <;> rfl) | (simp [*,errW_none,errW_some] <;> rfl),by repeat (first | (with_reducible first | exact HB.out | apply below_alloc | apply pw_below_drewN | apply below_drew1 | refine below_set ?_ GE111.out) | exact HB.out)⟩
      ·replace c10:=Bool.eq_false_iff.mpr c10
       subst c10
       have H1:(if 0 < (a0.size:Int) then ((lex_has.f (⟨#[40,41,44,42,43,45,47,37,61,60,62,59]⟩:ByteArray) (bt a0 0)).bind fun t112 => (if t112=true then (if 0 ≤ 1 then (if 1 ≤ (a0.size:Int) then (some (4,a0.extract 0 1,0,1,0)) else (none)) else (none)) else (some (0,(⟨#[]⟩:ByteArray),0,0,20)))) else (none))=some (r1,r2,r3,r4,r5):=by rw [if_neg (show ¬ (false=true) by decide)] at H;exact H
       clear H
       have H:=H1
       clear H1
       by_cases c12:0 < (a0.size:Int)
       ·rw [if_pos c12] at H
        have c12b0:decide (0 < (a0.size:Int))=true:=decide_eq_true c12
        have c12b1:decide (0 < a0.size)=true:=decide_eq_true (by omega)
        clear c12
        replace H:=Option.bind_eq_some_iff.mp H
        obtain ⟨t112,A140,H⟩:=H
        replace H:(if t112=true then (if 0 ≤ 1 then (if 1 ≤ (a0.size:Int) then (some (4,a0.extract 0 1,0,1,0)) else (none)) else (none)) else (some (0,(⟨#[]⟩:ByteArray),0,0,20)))=some (r1,r2,r3,r4,r5):=H
        have A14:=Aside0.mk A140
        clear A140
        by_cases c15:t112=true
        ·subst c15
         have H1:(if 0 ≤ 1 then (if 1 ≤ (a0.size:Int) then (some (4,a0.extract 0 1,0,1,0)) else (none)) else (none))=some (r1,r2,r3,r4,r5):=by rw [if_pos rfl] at H;exact H
         clear H
         have H:=H1
         clear H1
         by_cases c16:0 ≤ 1
         ·rw [if_pos c16] at H
          have c16b0:=eq_true c16
          have c16b1:decide (0 ≤ 1)=true:=decide_eq_true c16
          clear c16
          by_cases c17:1 ≤ (a0.size:Int)
          ·rw [if_pos c17] at H
           have c17b0:=eq_true c17
           have c17b1:decide (1 ≤ (a0.size:Int))=true:=decide_eq_true c17
           clear c17
           simp only [Option.some.injEq,Prod.mk.injEq] at H
           obtain ⟨rfl,rfl,rfl,rfl,rfl⟩:=H
           have p13:0 ≤ (0:Int):=(by omega)
           have q13:0 < a0.size:=(by have:(0:Int) < (a0.size:Int):=of_decide_eq_true (by first | (with_reducible assumption) | assumption);omega)
           have hx13:∀ h:0 < a0.size,((a0[0]'h).toNat:Int)=bt a0 0:=bt_at a0 0
           clear p13
           have qi13:(0 < (a0.size:Int))=True:=eq_true (of_decide_eq_true (by first | (with_reducible assumption) | assumption))
           replace q13:=eq_true q13
           go_wp2_with (first | ((with_reducible refine gate_callee (f:=57) rfl ?_);refine goesL_ (some 21) rfl rfl Tryz.func57 (by kernel_rfl) rfl #[.string (⟨#[40,41,44,42,43,45,47,37,61,60,62,59]⟩:ByteArray),.int .u8 (bt a0 0)] rfl (by (try simp only [List.map_toArray,List.map_cons,List.map_nil]);first | done | rfl | (simp only [List.length_drop,List.length_take];rfl)) ?_;(with_reducible refine (lex_has.calls (⟨#[40,41,44,42,43,45,47,37,61,60,62,59]⟩:ByteArray) (bt a0 0) true _ A14.out).mono ?_);rintro e w' ⟨rfl,⟨nd,rfl⟩⟩;refine ⟨_,rfl,?_⟩;(try (rw [drewN_self wc];generalize hq_:World.drewN wc _=wc;have n0_:Aside0 (wc.heap[gb111]? = some (.cells #[.int .i64 0,.string (⟨#[]⟩:ByteArray),.int .i64 0] 32 (0,0))):=⟨by rw [← hq_];exact (by (with_reducible repeat (first | refine blk_drewN ?_ _ | refine blk_drew ?_ | refine blk_alloc ?_ _));exact BK111.out)⟩;have n1_:Aside0 (Below w.heap.size w wc):=⟨by rw [← hq_];exact (by repeat (first | (with_reducible first | exact HB.out | apply below_alloc | apply pw_below_drewN | apply below_drew1 | refine below_set ?_ GE111.out) | exact HB.out))⟩;clear BK111 HB hq_;have BK111:=n0_;have HB:=n1_;clear n0_ n1_));have hcz18_0:wc.cell? ⟨gb111,0,none⟩=some (.int .i64 0):=(blk_cell BK111.out 0).trans rfl;have hcz18_1:wc.cell? ⟨gb111,1,none⟩=some (.string (⟨#[]⟩:ByteArray)):=(blk_cell BK111.out 1).trans rfl;have hcz18_2:wc.cell? ⟨gb111,2,none⟩=some (.int .i64 0):=(blk_cell BK111.out 2).trans rfl;have hfz18_0:=blk_frozen BK111.out 0;have hfz18_1:=blk_frozen BK111.out 1;have hfz18_2:=blk_frozen BK111.out 2))
           refine bodyPost_ret (results_ctt rfl _ _ gb111 32 #[.int .i64 4,.string (a0.extract 0 1),.int .i64 0] (0,0) _ rfl (by (with_reducible repeat (first | refine blk_drewN ?_ _ | refine blk_drew ?_ | refine blk_alloc ?_ _));refine blk_put (cs:=#[.int .i64 4,.string (a0.extract 0 1),.int .i64 0]) ?_ 2 _ rfl;(with_reducible repeat (first | refine blk_drewN ?_ _ | refine blk_drew ?_ | refine blk_alloc ?_ _));refine blk_put (cs:=#[.int .i64 4,.string (⟨#[]⟩:ByteArray),.int .i64 0]) ?_ 1 _ rfl;(with_reducible repeat (first | refine blk_drewN ?_ _ | refine blk_drew ?_ | refine blk_alloc ?_ _));refine blk_put (cs:=#[.int .i64 0,.string (⟨#[]⟩:ByteArray),.int .i64 0]) ?_ 0 _ rfl;(with_reducible repeat (first | refine blk_drewN ?_ _ | refine blk_drew ?_ | refine blk_alloc ?_ _));exact BK111.out) Tryz.underlying32 rfl (by kernel_rfl)) rfl ?_
           exact ⟨by first | rfl | (simp [errW_none,errW_some] <;> rfl) | (simp [*,errW_none,errW_some] <;> rfl),by repeat (first | (with_reducible first | exact HB.out | apply below_alloc | apply pw_below_drewN | apply below_drew1 | refine below_set ?_ GE111.out) | exact HB.out)⟩
          ·rw [if_neg c17] at H
           exact absurd H (by simp)
         ·rw [if_neg c16] at H
          exact absurd H (by simp)
        ·replace c15:=Bool.eq_false_iff.mpr c15
         subst c15
         have H1:(some (0,(⟨#[]⟩:ByteArray),0,0,20))=some (r1,r2,r3,r4,r5):=by rw [if_neg (show ¬ (false=true) by decide)] at H;exact H
         clear H
         have H:=H1
         clear H1
         simp only [Option.some.injEq,Prod.mk.injEq] at H
         obtain ⟨rfl,rfl,rfl,rfl,rfl⟩:=H
         have p13:0 ≤ (0:Int):=(by omega)
         have q13:0 < a0.size:=(by have:(0:Int) < (a0.size:Int):=of_decide_eq_true (by first | (with_reducible assumption) | assumption);omega)
         have hx13:∀ h:0 < a0.size,((a0[0]'h).toNat:Int)=bt a0 0:=bt_at a0 0
         clear p13
         have qi13:(0 < (a0.size:Int))=True:=eq_true (of_decide_eq_true (by first | (with_reducible assumption) | assumption))
         replace q13:=eq_true q13
         go_wp2_with (first | ((with_reducible refine gate_callee (f:=57) rfl ?_);refine goesL_ (some 21) rfl rfl Tryz.func57 (by kernel_rfl) rfl #[.string (⟨#[40,41,44,42,43,45,47,37,61,60,62,59]⟩:ByteArray),.int .u8 (bt a0 0)] rfl (by (try simp only [List.map_toArray,List.map_cons,List.map_nil]);first | done | rfl | (simp only [List.length_drop,List.length_take];rfl)) ?_;(with_reducible refine (lex_has.calls (⟨#[40,41,44,42,43,45,47,37,61,60,62,59]⟩:ByteArray) (bt a0 0) false _ A14.out).mono ?_);rintro e w' ⟨rfl,⟨nd,rfl⟩⟩;refine ⟨_,rfl,?_⟩;(try (rw [drewN_self wc];generalize hq_:World.drewN wc _=wc;have n0_:Aside0 (wc.heap[gb111]? = some (.cells #[.int .i64 0,.string (⟨#[]⟩:ByteArray),.int .i64 0] 32 (0,0))):=⟨by rw [← hq_];exact (by (with_reducible repeat (first | refine blk_drewN ?_ _ | refine blk_drew ?_ | refine blk_alloc ?_ _));exact BK111.out)⟩;have n1_:Aside0 (Below w.heap.size w wc):=⟨by rw [← hq_];exact (by repeat (first | (with_reducible first | exact HB.out | apply below_alloc | apply pw_below_drewN | apply below_drew1 | refine below_set ?_ GE111.out) | exact HB.out))⟩;clear BK111 HB hq_;have BK111:=n0_;have HB:=n1_;clear n0_ n1_));have hcz19_0:wc.cell? ⟨gb111,0,none⟩=some (.int .i64 0):=(blk_cell BK111.out 0).trans rfl;have hcz19_1:wc.cell? ⟨gb111,1,none⟩=some (.string (⟨#[]⟩:ByteArray)):=(blk_cell BK111.out 1).trans rfl;have hcz19_2:wc.cell? ⟨gb111,2,none⟩=some (.int .i64 0):=(blk_cell BK111.out 2).trans rfl;have hfz19_0:=blk_frozen BK111.out 0;have hfz19_1:=blk_frozen BK111.out 1;have hfz19_2:=blk_frozen BK111.out 2))
         refine bodyPost_ret (results_ctt rfl _ _ gb111 32 #[.int .i64 0,.string (⟨#[]⟩:ByteArray),.int .i64 0] (0,0) _ rfl (by (with_reducible repeat (first | refine blk_drewN ?_ _ | refine blk_drew ?_ | refine blk_alloc ?_ _));refine blk_put (cs:=#[.int .i64 0,.string (⟨#[]⟩:ByteArray),.int .i64 0]) ?_ 2 _ rfl;(with_reducible repeat (first | refine blk_drewN ?_ _ | refine blk_drew ?_ | refine blk_alloc ?_ _));refine blk_put (cs:=#[.int .i64 0,.string (⟨#[]⟩:ByteArray),.int .i64 0]) ?_ 1 _ rfl;(with_reducible repeat (first | refine blk_drewN ?_ _ | refine blk_drew ?_ | refine blk_alloc ?_ _));refine blk_put (cs:=#[.int .i64 0,.string (⟨#[]⟩:ByteArray),.int .i64 0]) ?_ 0 _ rfl;(with_reducible repeat (first | refine blk_drewN ?_ _ | refine blk_drew ?_ | refine blk_alloc ?_ _));exact BK111.out) Tryz.underlying32 rfl (by kernel_rfl)) rfl ?_
         exact ⟨by first | rfl | (simp [errW_none,errW_some] <;> rfl) | (simp [*,errW_none,errW_some] <;> rfl),by repeat (first | (with_reducible first | exact HB.out | apply below_alloc | apply pw_below_drewN | apply below_drew1 | refine below_set ?_ GE111.out) | exact HB.out)⟩
       ·rw [if_neg c12] at H
        exact absurd H (by simp)
   ·rw [if_neg c4] at H
    exact absurd H (by simp)
  ·rw [if_neg c3] at H
   exact absurd H (by simp)
 ·rw [if_neg c2] at H
  have c2b0:decide (1 < (a0.size:Int))=false:=decide_eq_false c2
  have c2b1:decide (1 < a0.size)=false:=decide_eq_false (by omega)
  clear c2
  by_cases c20:0 < (a0.size:Int)
  ·rw [if_pos c20] at H
   have c20b0:decide (0 < (a0.size:Int))=true:=decide_eq_true c20
   have c20b1:decide (0 < a0.size)=true:=decide_eq_true (by omega)
   clear c20
   replace H:=Option.bind_eq_some_iff.mp H
   obtain ⟨t113,A220,H⟩:=H
   replace H:(if t113=true then (if 0 ≤ 1 then (if 1 ≤ (a0.size:Int) then (some (4,a0.extract 0 1,0,1,0)) else (none)) else (none)) else (some (0,(⟨#[]⟩:ByteArray),0,0,20)))=some (r1,r2,r3,r4,r5):=H
   have A22:=Aside0.mk A220
   clear A220
   by_cases c23:t113=true
   ·subst c23
    have H1:(if 0 ≤ 1 then (if 1 ≤ (a0.size:Int) then (some (4,a0.extract 0 1,0,1,0)) else (none)) else (none))=some (r1,r2,r3,r4,r5):=by rw [if_pos rfl] at H;exact H
    clear H
    have H:=H1
    clear H1
    by_cases c24:0 ≤ 1
    ·rw [if_pos c24] at H
     have c24b0:=eq_true c24
     have c24b1:decide (0 ≤ 1)=true:=decide_eq_true c24
     clear c24
     by_cases c25:1 ≤ (a0.size:Int)
     ·rw [if_pos c25] at H
      have c25b0:=eq_true c25
      have c25b1:decide (1 ≤ (a0.size:Int))=true:=decide_eq_true c25
      clear c25
      simp only [Option.some.injEq,Prod.mk.injEq] at H
      obtain ⟨rfl,rfl,rfl,rfl,rfl⟩:=H
      go_enter Tryz.func56,Tryz.ntmps56
      go_wp2_with (first | ((with_reducible refine gate_dst (N:=2) rfl ?_);refine box_event ?hg (N:=2) ?hd (cs:=#[.int .i64 0,.string (⟨#[]⟩:ByteArray),.int .i64 0]) (t:=32) ?hr ?_;(case hd => rfl);(case hg => rfl);(case hr => first | (go_simp;done) | (go_simp;rfl));intro gb111 hg w26 hbox hb;have n0_:=Aside0.mk (below_step (by repeat (first | (with_reducible first | exact HB.out | apply below_alloc | apply pw_below_drewN | apply below_drew1) | exact HB.out)) hb);have n1_:=Aside0.mk (hbox);have n2_:=Aside0.mk ((by rw [hg];exact (below_size (by repeat (first | (with_reducible first | exact HB.out | apply below_alloc | apply pw_below_drewN | apply below_drew1) | exact HB.out))):w.heap.size ≤ gb111));have n3_:=Aside0.mk ((by rw [hg];exact (below_size (by repeat (first | (with_reducible first | exact HB.out | apply below_alloc | apply pw_below_drewN | apply below_drew1) | exact HB.out))):w.heap.size ≤ gb111));clear HB;have HB:=n0_;have BK111:=n1_;have GW111:=n2_;have GE111:=n3_;clear n0_ n1_ n2_ n3_;clear hb hbox hg;have p21:0 ≤ (0:Int):=(by omega);have q21:0 < a0.size:=(by have:(0:Int) < (a0.size:Int):=of_decide_eq_true (by first | (with_reducible assumption) | assumption);omega);have hx21:∀ h:0 < a0.size,((a0[0]'h).toNat:Int)=bt a0 0:=bt_at a0 0;clear p21;have qi21:(0 < (a0.size:Int))=True:=eq_true (of_decide_eq_true (by first | (with_reducible assumption) | assumption));replace q21:=eq_true q21) | ((with_reducible refine gate_callee (f:=57) rfl ?_);refine goesL_ (some 21) rfl rfl Tryz.func57 (by kernel_rfl) rfl #[.string (⟨#[40,41,44,42,43,45,47,37,61,60,62,59]⟩:ByteArray),.int .u8 (bt a0 0)] rfl (by (try simp only [List.map_toArray,List.map_cons,List.map_nil]);first | done | rfl | (simp only [List.length_drop,List.length_take];rfl)) ?_;(with_reducible refine (lex_has.calls (⟨#[40,41,44,42,43,45,47,37,61,60,62,59]⟩:ByteArray) (bt a0 0) true _ A22.out).mono ?_);rintro e w' ⟨rfl,⟨nd,rfl⟩⟩;refine ⟨_,rfl,?_⟩;(try (rw [drewN_self w26];generalize hq_:World.drewN w26 _=w26;have n0_:Aside0 (w26.heap[gb111]? = some (.cells #[.int .i64 0,.string (⟨#[]⟩:ByteArray),.int .i64 0] 32 (0,0))):=⟨by rw [← hq_];exact (by (with_reducible repeat (first | refine blk_drewN ?_ _ | refine blk_drew ?_ | refine blk_alloc ?_ _));exact BK111.out)⟩;have n1_:Aside0 (Below w.heap.size w w26):=⟨by rw [← hq_];exact (by repeat (first | (with_reducible first | exact HB.out | apply below_alloc | apply pw_below_drewN | apply below_drew1 | refine below_set ?_ GE111.out) | exact HB.out))⟩;clear BK111 HB hq_;have BK111:=n0_;have HB:=n1_;clear n0_ n1_));have hcz27_0:w26.cell? ⟨gb111,0,none⟩=some (.int .i64 0):=(blk_cell BK111.out 0).trans rfl;have hcz27_1:w26.cell? ⟨gb111,1,none⟩=some (.string (⟨#[]⟩:ByteArray)):=(blk_cell BK111.out 1).trans rfl;have hcz27_2:w26.cell? ⟨gb111,2,none⟩=some (.int .i64 0):=(blk_cell BK111.out 2).trans rfl;have hfz27_0:=blk_frozen BK111.out 0;have hfz27_1:=blk_frozen BK111.out 1;have hfz27_2:=blk_frozen BK111.out 2))
      refine bodyPost_ret (results_ctt rfl _ _ gb111 32 #[.int .i64 4,.string (a0.extract 0 1),.int .i64 0] (0,0) _ rfl (by (with_reducible repeat (first | refine blk_drewN ?_ _ | refine blk_drew ?_ | refine blk_alloc ?_ _));refine blk_put (cs:=#[.int .i64 4,.string (a0.extract 0 1),.int .i64 0]) ?_ 2 _ rfl;(with_reducible repeat (first | refine blk_drewN ?_ _ | refine blk_drew ?_ | refine blk_alloc ?_ _));refine blk_put (cs:=#[.int .i64 4,.string (⟨#[]⟩:ByteArray),.int .i64 0]) ?_ 1 _ rfl;(with_reducible repeat (first | refine blk_drewN ?_ _ | refine blk_drew ?_ | refine blk_alloc ?_ _));refine blk_put (cs:=#[.int .i64 0,.string (⟨#[]⟩:ByteArray),.int .i64 0]) ?_ 0 _ rfl;(with_reducible repeat (first | refine blk_drewN ?_ _ | refine blk_drew ?_ | refine blk_alloc ?_ _));exact BK111.out) Tryz.underlying32 rfl (by kernel_rfl)) rfl ?_
      exact ⟨by first | rfl | (simp [errW_none,errW_some] <;> rfl) | (simp [*,errW_none,errW_some] <;> rfl),by repeat (first | (with_reducible first | exact HB.out | apply below_alloc | apply pw_below_drewN | apply below_drew1 | refine below_set ?_ GE111.out) | exact HB.out)⟩
     ·rw [if_neg c25] at H
      exact absurd H (by simp)
    ·rw [if_neg c24] at H
     exact absurd H (by simp)
   ·replace c23:=Bool.eq_false_iff.mpr c23
    subst c23
    have H1:(some (0,(⟨#[]⟩:ByteArray),0,0,20))=some (r1,r2,r3,r4,r5):=by rw [if_neg (show ¬ (false=true) by decide)] at H;exact H
    clear H
    have H:=H1
    clear H1
    simp only [Option.some.injEq,Prod.mk.injEq] at H
    obtain ⟨rfl,rfl,rfl,rfl,rfl⟩:=H
    go_enter Tryz.func56,Tryz.ntmps56
    go_wp2_with (first | ((with_reducible refine gate_dst (N:=2) rfl ?_);refine box_event ?hg (N:=2) ?hd (cs:=#[.int .i64 0,.string (⟨#[]⟩:ByteArray),.int .i64 0]) (t:=32) ?hr ?_;(case hd => rfl);(case hg => rfl);(case hr => first | (go_simp;done) | (go_simp;rfl));intro gb111 hg w28 hbox hb;have n0_:=Aside0.mk (below_step (by repeat (first | (with_reducible first | exact HB.out | apply below_alloc | apply pw_below_drewN | apply below_drew1) | exact HB.out)) hb);have n1_:=Aside0.mk (hbox);have n2_:=Aside0.mk ((by rw [hg];exact (below_size (by repeat (first | (with_reducible first | exact HB.out | apply below_alloc | apply pw_below_drewN | apply below_drew1) | exact HB.out))):w.heap.size ≤ gb111));have n3_:=Aside0.mk ((by rw [hg];exact (below_size (by repeat (first | (with_reducible first | exact HB.out | apply below_alloc | apply pw_below_drewN | apply below_drew1) | exact HB.out))):w.heap.size ≤ gb111));clear HB;have HB:=n0_;have BK111:=n1_;have GW111:=n2_;have GE111:=n3_;clear n0_ n1_ n2_ n3_;clear hb hbox hg;have p21:0 ≤ (0:Int):=(by omega);have q21:0 < a0.size:=(by have:(0:Int) < (a0.size:Int):=of_decide_eq_true (by first | (with_reducible assumption) | assumption);omega);have hx21:∀ h:0 < a0.size,((a0[0]'h).toNat:Int)=bt a0 0:=bt_at a0 0;clear p21;have qi21:(0 < (a0.size:Int))=True:=eq_true (of_decide_eq_true (by first | (with_reducible assumption) | assumption));replace q21:=eq_true q21) | ((with_reducible refine gate_callee (f:=57) rfl ?_);refine goesL_ (some 21) rfl rfl Tryz.func57 (by kernel_rfl) rfl #[.string (⟨#[40,41,44,42,43,45,47,37,61,60,62,59]⟩:ByteArray),.int .u8 (bt a0 0)] rfl (by (try simp only [List.map_toArray,List.map_cons,List.map_nil]);first | done | rfl | (simp only [List.length_drop,List.length_take];rfl)) ?_;(with_reducible refine (lex_has.calls (⟨#[40,41,44,42,43,45,47,37,61,60,62,59]⟩:ByteArray) (bt a0 0) false _ A22.out).mono ?_);rintro e w' ⟨rfl,⟨nd,rfl⟩⟩;refine ⟨_,rfl,?_⟩;(try (rw [drewN_self w28];generalize hq_:World.drewN w28 _=w28;have n0_:Aside0 (w28.heap[gb111]? = some (.cells #[.int .i64 0,.string (⟨#[]⟩:ByteArray),.int .i64 0] 32 (0,0))):=⟨by rw [← hq_];exact (by (with_reducible repeat (first | refine blk_drewN ?_ _ | refine blk_drew ?_ | refine blk_alloc ?_ _));exact BK111.out)⟩;have n1_:Aside0 (Below w.heap.size w w28):=⟨by rw [← hq_];exact (by repeat (first | (with_reducible first | exact HB.out | apply below_alloc | apply pw_below_drewN | apply below_drew1 | refine below_set ?_ GE111.out) | exact HB.out))⟩;clear BK111 HB hq_;have BK111:=n0_;have HB:=n1_;clear n0_ n1_));have hcz29_0:w28.cell? ⟨gb111,0,none⟩=some (.int .i64 0):=(blk_cell BK111.out 0).trans rfl;have hcz29_1:w28.cell? ⟨gb111,1,none⟩=some (.string (⟨#[]⟩:ByteArray)):=(blk_cell BK111.out 1).trans rfl;have hcz29_2:w28.cell? ⟨gb111,2,none⟩=some (.int .i64 0):=(blk_cell BK111.out 2).trans rfl;have hfz29_0:=blk_frozen BK111.out 0;have hfz29_1:=blk_frozen BK111.out 1;have hfz29_2:=blk_frozen BK111.out 2))
    refine bodyPost_ret (results_ctt rfl _ _ gb111 32 #[.int .i64 0,.string (⟨#[]⟩:ByteArray),.int .i64 0] (0,0) _ rfl (by (with_reducible repeat (first | refine blk_drewN ?_ _ | refine blk_drew ?_ | refine blk_alloc ?_ _));refine blk_put (cs:=#[.int .i64 0,.string (⟨#[]⟩:ByteArray),.int .i64 0]) ?_ 2 _ rfl;(with_reducible repeat (first | refine blk_drewN ?_ _ | refine blk_drew ?_ | refine blk_alloc ?_ _));refine blk_put (cs:=#[.int .i64 0,.string (⟨#[]⟩:ByteArray),.int .i64 0]) ?_ 1 _ rfl;(with_reducible repeat (first | refine blk_drewN ?_ _ | refine blk_drew ?_ | refine blk_alloc ?_ _));refine blk_put (cs:=#[.int .i64 0,.string (⟨#[]⟩:ByteArray),.int .i64 0]) ?_ 0 _ rfl;(with_reducible repeat (first | refine blk_drewN ?_ _ | refine blk_drew ?_ | refine blk_alloc ?_ _));exact BK111.out) Tryz.underlying32 rfl (by kernel_rfl)) rfl ?_
    exact ⟨by first | rfl | (simp [errW_none,errW_some] <;> rfl) | (simp [*,errW_none,errW_some] <;> rfl),by repeat (first | (with_reducible first | exact HB.out | apply below_alloc | apply pw_below_drewN | apply below_drew1 | refine below_set ?_ GE111.out) | exact HB.out)⟩
  ·rw [if_neg c20] at H
   exact absurd H (by simp)
end Go.Proofs.YtcgdncpioafbdaaGreatDoor.Q
namespace Go.Proofs.YtcgdncpioafbdaaGreatDoor.Q
open Go Go.RowKit Go.Proofs.YtcgdncpioafbdaaGreatDoorW.PrintWords
theorem digit_range (c:UInt8):Lx.isDigit c=true → 48 ≤ c.toNat∧c.toNat ≤ 57:=all_bytes (p:=fun c => Lx.isDigit c=true → 48 ≤ c.toNat∧c.toNat ≤ 57) (by decide +kernel) c
def valFrom (acc:Nat) (l:List UInt8):Nat:=l.foldl (fun a c => a * 10 + (c.toNat - 48)) acc
theorem valFrom_cons (acc:Nat) (c:UInt8) (r:List UInt8):valFrom acc (c :: r)=valFrom (acc * 10 + (c.toNat - 48)) r:=by unfold valFrom;rw [List.foldl_cons]
theorem fold_ge:∀ (l:List UInt8) (acc:Nat),acc ≤ valFrom acc l
 | [],acc => Nat.le_refl _
 | c :: r,acc => by
  have:=fold_ge r (acc * 10 + (c.toNat - 48))
  rw [valFrom_cons]
  omega
theorem parseM (M:Nat) (hM:M=18446744073709551615) (l:List UInt8):∀ (acc:Nat),(∀ c ∈ l,Lx.isDigit c=true) → acc ≤ M → Lib.parseUintM M acc l=if valFrom acc l ≤ M then .ok (valFrom acc l) else .range:=by
 induction l with
 | nil =>
  intro acc _ h
  rw [show valFrom acc []=acc by unfold valFrom;rw [List.foldl_nil],if_pos h]
  rfl
 | cons c r ih =>
  intro acc hd h
  have hc:=digit_range c (hd c (by simp))
  have hge:=fold_ge r (acc * 10 + (c.toNat - 48))
  rw [valFrom_cons,Lib.parseUintM,if_pos hc]
  by_cases h1:1844674407370955162 ≤ acc
  ·rw [if_pos h1,if_neg (by omega)]
  ·rw [if_neg h1]
   by_cases h2:M < acc * 10 + (c.toNat - 48)
   ·rw [if_pos h2,if_neg (by omega)]
   ·rw [if_neg h2]
    exact ih _ (fun x hx => hd x (by simp [hx])) (by omega)
theorem parse_digits (l:List UInt8) (hne:l ≠ []) (hd:∀ c ∈ l,Lx.isDigit c=true):Lib.parseIntB 64 l=if Lx.numVal l > 9223372036854775807 then .range else .ok (Lx.numVal l:Int):=by
 cases l with
 | nil => exact absurd rfl hne
 | cons c r =>
  have hc:=digit_range c (hd c (by simp))
  rw [Lib.parseIntB_plain 64 c r (by omega) (by omega)]
  unfold Lib.parseUintB
  rw [if_neg (by simp)]
  have hM:(2 ^ 64 - 1:Nat)=18446744073709551615:=by decide
  have hC:(2 ^ (64 - 1):Nat)=9223372036854775808:=by decide
  rw [hC]
  generalize hMM:(2 ^ 64 - 1:Nat)=M
  rw [hM] at hMM
  rw [parseM M hMM.symm (c :: r) 0 hd (by omega)]
  have hv:valFrom 0 (c :: r)=Lx.numVal (c :: r):=rfl
  rw [hv]
  generalize Lx.numVal (c :: r)=v
  by_cases h1:v ≤ M
  ·rw [if_pos h1]
   simp only [Lib.signlessC]
   by_cases h2:9223372036854775808 ≤ v
   ·rw [if_pos h2,if_pos (by omega)]
   ·rw [if_neg h2,if_neg (by omega)]
  ·rw [if_neg h1,if_pos (by omega)]
   rfl
def tokVal (x:Except Nat (Lx.Tk × Nat)):Value:=.tuple #[.agg #[.int .i64 (tokFlat x).1,.string (tokFlat x).2.1,.int .i64 (tokFlat x).2.2.1],.int .i64 (tokFlat x).2.2.2.1,.int .i64 (tokFlat x).2.2.2.2]
structure Res (B:Nat) (a b c:Value) (w0 w:World):Prop where
 c0:w.cell? ⟨B,0,none⟩=some a
 c1:w.cell? ⟨B,1,none⟩=some b
 c2:w.cell? ⟨B,2,none⟩=some c
 f0:w.frozen? ⟨B,0,none⟩=false
 f1:w.frozen? ⟨B,1,none⟩=false
 f2:w.frozen? ⟨B,2,none⟩=false
 sz:B < w.heap.size
 bl:Below B w0 w
theorem Res.below {B:Nat} {a b c:Value} {w0 w w1:World} (h:Res B a b c w0 w) (hb:Below w.heap.size w w1):Res B a b c w0 w1 :=
 ⟨(hb.cell (p:=⟨B,0,none⟩) h.sz).trans h.c0,(hb.cell (p:=⟨B,1,none⟩) h.sz).trans h.c1,(hb.cell (p:=⟨B,2,none⟩) h.sz).trans h.c2,
  (hb.frozen (p:=⟨B,0,none⟩) h.sz).trans h.f0,(hb.frozen (p:=⟨B,1,none⟩) h.sz).trans h.f1,(hb.frozen (p:=⟨B,2,none⟩) h.sz).trans h.f2,Nat.lt_of_lt_of_le h.sz hb.size,h.bl.trans (hb.mono (Nat.le_of_lt h.sz))⟩
theorem Res.new (w:World) (a b c:Value) (t:TypeId):Res w.heap.size a b c w (w.alloc (.cells #[a,b,c] t)):=by
 refine ⟨?_,?_,?_,?_,?_,?_,by simp,(Below.refl w.heap.size w).alloc (Nat.le_refl _) _⟩
 ·rw [World.cell?_alloc_at _ _ _ _ rfl];rfl
 ·rw [World.cell?_alloc_at _ _ _ _ rfl];rfl
 ·rw [World.cell?_alloc_at _ _ _ _ rfl];rfl
 ·exact World.frozen?_alloc_at _ _ _ _ rfl
 ·exact World.frozen?_alloc_at _ _ _ _ rfl
 ·exact World.frozen?_alloc_at _ _ _ _ rfl
theorem Res.drewN {B:Nat} {a b c:Value} {w0 w:World} (h:Res B a b c w0 w) (n:Nat):Res B a b c w0 (w.drewN n):=h.below (pw_below_drewN (Below.refl _ _) n)
theorem parse_ok (s:ByteArray) (hs:s.size ≤ 4000) (v:Int) (h:Lib.parseIntB 64 s.data.toList = .ok v) (w:World) :
  Calls Tryz.prog 123 #[.string s,.int .i64 10,.int .i64 64] w fun e w' => e = .returned (.tuple #[.int .i64 v,.nilIface])∧Below w.heap.size w w':=by
 refine (Tryz.strconv_ParseInt_10_at64_ok s (by omega) v h w).mono ?_
 rintro e w' ⟨rfl,rfl | ⟨t,rfl⟩⟩
 ·exact ⟨rfl,Below.refl _ _⟩
 ·exact ⟨rfl,Lib.bytesWorld_below w 5 t⟩
theorem err_cell {w : World} {a : Addr} (h : w.var? Tryz.prog "strconv.ErrRange" = some #[.iface 398 (.pointer (some a))]) : w.cell? ⟨0, 0, none⟩ = some (.iface 398 (.pointer (some a))) := by
 simpa using World.var?_cell gErr h 0
theorem parse_range (s : ByteArray) (hs : s.size ≤ 4000) (h : Lib.parseIntB 64 s.data.toList = .range) (a : Addr) (w : World) (hv : w.var? Tryz.prog "strconv.ErrRange" = some #[.iface 398 (.pointer (some a))]) :
  Calls Tryz.prog 123 #[.string s,.int .i64 10,.int .i64 64] w fun e w' => ∃ N v,e = .returned (.tuple #[.int .i64 v,.iface 319 (.pointer (some ⟨N,0,none⟩))])∧w'.cell? ⟨N,2,none⟩=some (.iface 398 (.pointer (some a)))∧Below w.heap.size w w':=by
 refine (Tryz.strconv_ParseInt_10_at64_range_var s (by omega) h 398 (.pointer (some a)) w hv).mono ?_
 rintro e w' ⟨N,rfl,hN,hc,hb⟩
 exact ⟨N,_,rfl,by simp [World.cell?,hc],hb⟩
set_option maxHeartbeats 2000000 in
set_option maxRecDepth 100000 in
theorem num_bad (s:ByteArray) (m:Nat) (hs:s.size ≤ 4000) (hm:(s.data.toList.takeWhile Lx.isDigit).length=m) (hlt:m < s.size) (hp:Lx.isPart (s[m]'hlt)=true) (w:World) :
  Calls Tryz.prog 59 #[.string s] w fun e w' => e = .returned (tokVal (.error 20))∧Below w.heap.size w w':=by
 have hr:=run_is s digB (by decide +kernel) hs
 rw [takeWhile_cong dig_is,hm] at hr
 have hh:=has_is behB (s[m]'hlt)
 rw [beh_is,hp] at hh
 have HR:=Lib.hid hr
 have HH:=Lib.hid hh
 have c1:decide ((m:Nat) < s.size)=true:=decide_eq_true hlt
 clear hr hh hm hp
 go_enter Tryz.func59,Tryz.ntmps59
 go_wp2_with (first | (go_at_call 121;refine (lex_run.calls s digB (m:Int) _ HR.out).mono ?_;rintro e w1 ⟨rfl,hb1⟩;obtain ⟨k0,k1,k2,z0,z1,z2,sz,bl⟩:=(Res.new w _ _ _ _).below hb1;clear hb1) | (go_at_call 57;refine (lex_has.calls behB _ true _ HH.out).mono ?_;rintro e w2 ⟨rfl,⟨n,rfl⟩⟩))
 refine bodyPost_ret (v:=.tuple #[.agg #[.int .i64 0,.string ⟨#[]⟩,.int .i64 0],.int .i64 0,.int .i64 20]) ?_ rfl ⟨rfl,?_⟩
 ·simp [results,Tryz.results59,go_sem,k0,k1,k2,z0,z1,z2,sz]
 ·exact (((pw_below_drewN bl n).setCell (by simp) _).setCell (by simp) _).setCell (by simp) _
theorem err_later {w w1 : World} {a : Addr} (hG : GV w) (h : w.var? Tryz.prog "strconv.ErrRange" = some #[.iface 398 (.pointer (some a))]) (hb : Below w.heap.size w w1) : w1.var? Tryz.prog "strconv.ErrRange" = some #[.iface 398 (.pointer (some a))] :=
 var?_below hb gErr (by have:=hG.size;omega) h
set_option maxHeartbeats 4000000 in
set_option maxRecDepth 100000 in
theorem num_ok (s:ByteArray) (m:Nat) (hs:s.size ≤ 4000) (hm:(s.data.toList.takeWhile Lx.isDigit).length=m) (hle:m ≤ s.size) (hp:∀ h:m < s.size,Lx.isPart (s[m]'h)=false) (v:Int) (hv:Lib.parseIntB 64 (s.extract 0 m).data.toList = .ok v) (hlo:-9223372036854775808 ≤ v) (hhi:v ≤ 9223372036854775807) (w:World) (hG:GV w) :
  Calls Tryz.prog 59 #[.string s] w fun e w' => e = .returned (.tuple #[.agg #[.int .i64 2,.string ⟨#[]⟩,.int .i64 v],.int .i64 m,.int .i64 0])∧Below w.heap.size w w':=by
 have hr:=run_is s digB (by decide +kernel) hs
 rw [takeWhile_cong dig_is,hm] at hr
 have HR:=Lib.hid hr
 have HV:=Lib.hid hv
 obtain ⟨a,ha⟩:=hG.err
 have HA:=Lib.hid ha
 have hsx:(s.extract 0 m).size ≤ 4000:=by rw [ByteArray.size_extract];omega
 clear hr hm hv ha
 by_cases hlt:m < s.size
 ·have hh:=has_is behB (s[m]'hlt)
  rw [beh_is,hp hlt] at hh
  have HH:=Lib.hid hh
  have c1:decide ((m:Nat) < s.size)=true:=decide_eq_true hlt
  clear hh hp
  go_enter Tryz.func59,Tryz.ntmps59
  go_wp2_with (first | (go_at_call 121;refine (lex_run.calls s digB (m:Int) _ HR.out).mono ?_;rintro e w1 ⟨rfl,hb1⟩;have R1:=(Res.new w _ _ _ _).below hb1;clear hb1) | (go_at_call 57;refine (lex_has.calls behB _ false _ HH.out).mono ?_;rintro e w2 ⟨rfl,⟨n,rfl⟩⟩;replace R1:=R1.drewN n) | (go_at_call 123;refine (parse_ok _ hsx v HV.out _).mono ?_;rintro e w3 ⟨rfl,hb3⟩;replace R1:=R1.below hb3;clear hb3;obtain ⟨k0,k1,k2,z0,z1,z2,sz,bl⟩:=R1;have e0:=err_cell (err_later hG HA.out bl)) | (go_at_call 124;refine (is_nil a _).mono ?_;rintro e w4 ⟨rfl,rfl⟩))
  refine bodyPost_ret (v:=.tuple #[.agg #[.int .i64 2,.string ⟨#[]⟩,.int .i64 v],.int .i64 m,.int .i64 0]) ?_ rfl ⟨rfl,?_⟩
  ·simp [results,Tryz.results59,go_sem,k0,k1,k2,z0,z1,z2,sz]
  ·exact ((bl.setCell (by simp) _).setCell (by simp) _).setCell (by simp) _
 ·have c1:decide ((m:Nat) < s.size)=false:=decide_eq_false hlt
  clear hp
  go_enter Tryz.func59,Tryz.ntmps59
  go_wp2_with (first | (go_at_call 121;refine (lex_run.calls s digB (m:Int) _ HR.out).mono ?_;rintro e w1 ⟨rfl,hb1⟩;have R1:=(Res.new w _ _ _ _).below hb1;clear hb1) | (go_at_call 123;refine (parse_ok _ hsx v HV.out _).mono ?_;rintro e w3 ⟨rfl,hb3⟩;replace R1:=R1.below hb3;clear hb3;obtain ⟨k0,k1,k2,z0,z1,z2,sz,bl⟩:=R1;have e0:=err_cell (err_later hG HA.out bl)) | (go_at_call 124;refine (is_nil a _).mono ?_;rintro e w4 ⟨rfl,rfl⟩))
  refine bodyPost_ret (v:=.tuple #[.agg #[.int .i64 2,.string ⟨#[]⟩,.int .i64 v],.int .i64 m,.int .i64 0]) ?_ rfl ⟨rfl,?_⟩
  ·simp [results,Tryz.results59,go_sem,k0,k1,k2,z0,z1,z2,sz]
  ·exact ((bl.setCell (by simp) _).setCell (by simp) _).setCell (by simp) _
set_option maxHeartbeats 4000000 in
set_option maxRecDepth 100000 in
theorem num_over (s:ByteArray) (m:Nat) (hs:s.size ≤ 4000) (hm:(s.data.toList.takeWhile Lx.isDigit).length=m) (hle:m ≤ s.size) (hp:∀ h:m < s.size,Lx.isPart (s[m]'h)=false) (hv:Lib.parseIntB 64 (s.extract 0 m).data.toList = .range) (w:World) (hG:GV w) :
  Calls Tryz.prog 59 #[.string s] w fun e w' => e = .returned (tokVal (.error 26))∧Below w.heap.size w w':=by
 have hr:=run_is s digB (by decide +kernel) hs
 rw [takeWhile_cong dig_is,hm] at hr
 have HR:=Lib.hid hr
 have HV:=Lib.hid hv
 obtain ⟨a,ha⟩:=hG.err
 have HA:=Lib.hid ha
 have hsx:(s.extract 0 m).size ≤ 4000:=by rw [ByteArray.size_extract];omega
 clear hr hm hv ha
 by_cases hlt:m < s.size
 ·have hh:=has_is behB (s[m]'hlt)
  rw [beh_is,hp hlt] at hh
  have HH:=Lib.hid hh
  have c1:decide ((m:Nat) < s.size)=true:=decide_eq_true hlt
  clear hh hp
  go_enter Tryz.func59,Tryz.ntmps59
  go_wp2_with (first | (go_at_call 121;refine (lex_run.calls s digB (m:Int) _ HR.out).mono ?_;rintro e w1 ⟨rfl,hb1⟩;have R1:=(Res.new w _ _ _ _).below hb1;clear hb1) | (go_at_call 57;refine (lex_has.calls behB _ false _ HH.out).mono ?_;rintro e w2 ⟨rfl,⟨n,rfl⟩⟩;replace R1:=R1.drewN n) | (go_at_call 123;refine (parse_range _ hsx HV.out a _ (err_later hG HA.out R1.bl)).mono ?_;rintro e w3 ⟨N,v,rfl,hN,hb3⟩;replace R1:=R1.below hb3;clear hb3;obtain ⟨k0,k1,k2,z0,z1,z2,sz,bl⟩:=R1;have e0:=err_cell (err_later hG HA.out bl)) | (go_at_call 124;refine (is_range _ a _ hN).mono ?_;rintro e w4 ⟨rfl,rfl⟩))
  refine bodyPost_ret (v:=.tuple #[.agg #[.int .i64 0,.string ⟨#[]⟩,.int .i64 0],.int .i64 0,.int .i64 26]) ?_ rfl ⟨rfl,?_⟩
  ·simp [results,Tryz.results59,go_sem,k0,k1,k2,z0,z1,z2,sz]
  ·exact ((bl.setCell (by simp) _).setCell (by simp) _).setCell (by simp) _
 ·have c1:decide ((m:Nat) < s.size)=false:=decide_eq_false hlt
  clear hp
  go_enter Tryz.func59,Tryz.ntmps59
  go_wp2_with (first | (go_at_call 121;refine (lex_run.calls s digB (m:Int) _ HR.out).mono ?_;rintro e w1 ⟨rfl,hb1⟩;have R1:=(Res.new w _ _ _ _).below hb1;clear hb1) | (go_at_call 123;refine (parse_range _ hsx HV.out a _ (err_later hG HA.out R1.bl)).mono ?_;rintro e w3 ⟨N,v,rfl,hN,hb3⟩;replace R1:=R1.below hb3;clear hb3;obtain ⟨k0,k1,k2,z0,z1,z2,sz,bl⟩:=R1;have e0:=err_cell (err_later hG HA.out bl)) | (go_at_call 124;refine (is_range _ a _ hN).mono ?_;rintro e w4 ⟨rfl,rfl⟩))
  refine bodyPost_ret (v:=.tuple #[.agg #[.int .i64 0,.string ⟨#[]⟩,.int .i64 0],.int .i64 0,.int .i64 26]) ?_ rfl ⟨rfl,?_⟩
  ·simp [results,Tryz.results59,go_sem,k0,k1,k2,z0,z1,z2,sz]
  ·exact ((bl.setCell (by simp) _).setCell (by simp) _).setCell (by simp) _
theorem dropWhile_head {α} (p:α → Bool) (l:List α):(l.dropWhile p).head? = l[(l.takeWhile p).length]? := by
 induction l with
 | nil => rfl
 | cons c r ih =>
  by_cases h:p c=true
  ·simp only [List.dropWhile,List.takeWhile,h,List.length_cons]
   rw [ih]
   rfl
  ·have h':p c=false:=by simpa using h
   simp [List.dropWhile,List.takeWhile,h']
theorem num_calls (s:ByteArray) (hs:s.size ≤ 4000) (c:UInt8) (r:List UInt8) (hl:s.data.toList=c :: r) (hd:Lx.isDigit c=true) (w:World) (hG:GV w) :
  Calls Tryz.prog 59 #[.string s] w fun e w' => e = .returned (tokVal (Lx.numA s.data.toList))∧Below w.heap.size w w':=by
 have hls:s.data.toList.length=s.size:=by rw [Array.length_toList];rfl
 have hle:=Lx.takeWhile_le Lx.isDigit s.data.toList
 have hhead:=dropWhile_head Lx.isDigit s.data.toList
 obtain ⟨m,hm⟩:∃ m,(s.data.toList.takeWhile Lx.isDigit).length=m:=⟨_,rfl⟩
 rw [hm] at hhead
 have hsx:(s.extract 0 m).data.toList=s.data.toList.takeWhile Lx.isDigit:=by
  rw [ba_take,ba_data,← hm,take_takeWhile]
 have hne:s.data.toList.takeWhile Lx.isDigit ≠ []:=by rw [hl];simp [List.takeWhile,hd]
 have hpd:=parse_digits (s.data.toList.takeWhile Lx.isDigit) hne (fun x hx => mem_takeWhile hx)
 rw [← hsx] at hpd
 have hget:∀ h:m < s.size,s.data.toList[m]? = some (s[m]'h):=fun h => by rw [List.getElem?_eq_getElem (by omega)];rfl
 unfold Lx.numA
 by_cases h1:(s.data.toList.dropWhile Lx.isDigit).head?.any Lx.isPart=true
 ·rw [if_pos h1]
  rw [hhead] at h1
  have hlt:m < s.size:=by
   rcases Nat.lt_or_ge m s.size with h | h
   ·exact h
   ·rw [List.getElem?_eq_none (by omega)] at h1
    simp at h1
  rw [hget hlt] at h1
  exact num_bad s m hs hm hlt (by simpa using h1) w
 ·rw [if_neg h1]
  have hp:∀ h:m < s.size,Lx.isPart (s[m]'h)=false:=by
   intro h
   rw [hhead,hget h] at h1
   simpa using h1
  rw [hsx] at hpd
  by_cases h2:Lx.numVal (s.data.toList.takeWhile Lx.isDigit) > 9223372036854775807
  ·rw [if_pos h2] at hpd ⊢
   exact num_over s m hs hm (by omega) hp (by rw [hsx];exact hpd) w hG
  ·rw [if_neg h2] at hpd ⊢
   have:=num_ok s m hs hm (by omega) hp (Lx.numVal (s.data.toList.takeWhile Lx.isDigit):Int) (by rw [hsx];exact hpd) (by omega) (by omega) w hG
   rw [← hm] at this
   exact this
end Go.Proofs.YtcgdncpioafbdaaGreatDoor.Q
namespace Go.Proofs.YtcgdncpioafbdaaGreatDoor.Q
open Go Go.RowKit Go.Proofs.YtcgdncpioafbdaaGreatDoorW.PrintWords
theorem wbyte (B b:Nat) (acc:List UInt8) (c:UInt8) (w:World) (h:Lib.IsBuilder 169 5 B b (Lib.byteCells acc) w) (hlen:acc.length + 1 ≤ 5000) (hBw:B ≤ w.heap.size) :
  Calls Tryz.prog 127 #[.pointer (some ⟨b,0,none⟩),.int .u8 (c.toNat:Int)] w fun e w' => e = .returned .nilIface∧Lib.IsBuilder 169 5 B b (Lib.byteCells (acc ++ [c])) w'∧Below B w w':=by
 have hc:=Any.Builder_WriteByte (ρ:=Tryz.lays159_ren) { Tryz.lays159 with } Tryz.Builder_Extra_159 B b (Lib.byteCells acc) (c.toNat:Int) w h (by rw [Lib.byteCells_length];omega) hBw
 refine Calls.mono hc ?_
 rintro e w' ⟨rfl,h1,hb⟩
 refine ⟨rfl,.inr ?_,hb⟩
 rw [Lib.byteCells_append]
 exact h1
def StrRel (l:List UInt8) (w:World) (i:Value) (wr:World):Prop :=
 ∃ (k:Nat) (acc:List UInt8),i = .int .i64 k∧1 ≤ k∧k ≤ l.length∧Lib.IsBuilder 169 5 (w.heap.size + 1) (w.heap.size + 1) (Lib.byteCells acc) wr∧Res w.heap.size (.int .i64 0) (.string ⟨#[]⟩) (.int .i64 0) w wr∧acc.length + 1 ≤ k ∧
  Lx.strA (l.drop 1)=(Lx.strA (l.drop k)).map fun p => (acc ++ p.1,p.2 + (k - 1))
def StrEnd (l:List UInt8) (w:World) (e:Ending) (w':World):Prop:=e = .returned (tokVal (Lx.textA (l.drop 1)))∧Below w.heap.size w w'
theorem Res.above {B B':Nat} {a b c:Value} {w0 w w1:World} (h:Res B a b c w0 w) (hb:Below B' w w1) (hB:B < B'):Res B a b c w0 w1 :=
 ⟨(hb.cell (p:=⟨B,0,none⟩) hB).trans h.c0,(hb.cell (p:=⟨B,1,none⟩) hB).trans h.c1,(hb.cell (p:=⟨B,2,none⟩) hB).trans h.c2,
  (hb.frozen (p:=⟨B,0,none⟩) hB).trans h.f0,(hb.frozen (p:=⟨B,1,none⟩) hB).trans h.f1,(hb.frozen (p:=⟨B,2,none⟩) hB).trans h.f2,Nat.lt_of_lt_of_le h.sz hb.size,h.bl.trans (hb.mono (Nat.le_of_lt hB))⟩
theorem strA_other (c:UInt8) (r:List UInt8) (h:c ≠ 39):Lx.strA (c :: r)=(Lx.strA r).map fun p => (c :: p.1,p.2 + 1):=by
 have h1:(c == 39)=false:=by simpa using h
 cases r with
 | nil => simp [Lx.strA,h]
 | cons d r => simp only [Lx.strA,h1];rfl
theorem strA_twice (r:List UInt8):Lx.strA (39 :: 39 :: r)=(Lx.strA r).map fun p => (39 :: p.1,p.2 + 2):=by simp [Lx.strA]
theorem strA_last (r:List UInt8) (h:r.head? ≠ some 39):Lx.strA (39 :: r)=some ([],1):=by
 cases r with
 | nil => simp [Lx.strA]
 | cons d r =>
  have h1:(d == 39)=false:=by simpa using h
  simp only [Lx.strA,h1]
  rfl
theorem drop_at (s:ByteArray) (k:Nat) (h:k < s.size):s.data.toList.drop k=s[k]'h :: s.data.toList.drop (k + 1):=by
 have hl:s.data.toList.length=s.size:=by rw [Array.length_toList];rfl
 rw [List.drop_eq_getElem_cons (by omega)]
 rfl
theorem strA_more {x:Option (List UInt8 × Nat)} {acc:List UInt8} {k j:Nat} {c:UInt8} {y:Option (List UInt8 × Nat)} (hk:1 ≤ k) (h:y=(x.map fun p => (c :: p.1,p.2 + j)).map fun p => (acc ++ p.1,p.2 + (k - 1))) :
  y=x.map fun p => ((acc ++ [c]) ++ p.1,p.2 + (k + j - 1)):=by
 rw [h]
 cases x with
 | none => rfl
 | some p =>
  simp only [Option.map_some]
  congr 2
  ·simp
  ·omega
theorem len_calls (B b:Nat) (acc:List UInt8) (w:World) (h:Lib.IsBuilder 169 5 B b (Lib.byteCells acc) w) :
  Calls Tryz.prog 125 #[.pointer (some ⟨b,0,none⟩)] w fun e w' => e = .returned (.int .i64 (acc.length:Int))∧w'=w:=by
 have:=Tryz.Builder_Len B b (Lib.byteCells acc) w h
 rw [Lib.byteCells_length] at this
 exact this
theorem string_calls (B b:Nat) (acc:List UInt8) (w:World) (h:Lib.IsBuilder 169 5 B b (Lib.byteCells acc) w) (hB:B ≤ w.heap.size) :
  Calls Tryz.prog 126 #[.pointer (some ⟨b,0,none⟩)] w fun e w' => e = .returned (.string (ba acc))∧Below B w w':=Tryz.Builder_String_any B b acc w h hB
theorem strA_start (l:List UInt8):Lx.strA (l.drop 1)=(Lx.strA (l.drop 1)).map fun p => ([] ++ p.1,p.2 + (1 - 1)):=by
 cases Lx.strA (l.drop 1) <;> rfl
set_option maxHeartbeats 4000000 in
set_option maxRecDepth 100000 in
theorem str_walk (s:ByteArray) (hs:s.size ≤ 4000) (h1:1 ≤ s.size) (w:World) :
  Calls Tryz.prog 60 #[.string s] w (StrEnd s.data.toList w):=by
 have hls:s.data.toList.length=s.size:=by rw [Array.length_toList];rfl
 have HL:=Lib.hid hls
 have h0:StrRel s.data.toList w (.int .i64 (1:Nat)) ((w.alloc (.cells #[.int .i64 0,.string ⟨#[]⟩,.int .i64 0] 32)).alloc (.cells #[.pointer none,.slice none 0 0] 169)):=by
  refine ⟨1,[],rfl,Nat.le_refl _,by omega,?_,?_,by simp,strA_start _⟩
  ·have:=Lib.fresh_isBuilder 169 5 (w.alloc (.cells #[.int .i64 0,.string ⟨#[]⟩,.int .i64 0] 32))
   have e:Lib.byteCells []=[]:=rfl
   rw [e]
   simpa using this
  ·exact (Res.new w _ _ _ _).below ((Below.refl _ _).alloc (Nat.le_refl _) _)
 have H0:=Lib.hid h0
 clear h0 hls
 go_enter Tryz.func60,Tryz.ntmps60
 go_wp2
 go_loopw [6] (fun i wr => StrRel s.data.toList w i wr) (fun i _ => s.size - (intOf i).toNat)
 case atStart => exact H0.out
 case round =>
  obtain ⟨k,acc,rfl,hk1,hk2,hB,hR,hacc,hA⟩:=hrel
  have hkl:k ≤ s.size:=by have:=HL.out;omega
  have HA:=Lib.hid hA
  clear hk2 hA H0
  by_cases hlt:k < s.size
  ·have c1:decide ((k:Nat) < s.size)=true:=decide_eq_true hlt
   by_cases hq:s[k]'hlt=39
   ·have c2:(((s[k]'hlt).toNat:Int) == 39)=true:=by rw [hq];rfl
    have hbs:w.heap.size + 1 ≤ wr.heap.size:=hR.sz
    by_cases hd:∃ h:k + 1 < s.size,s[k + 1]'h=39
    ·obtain ⟨hl2,hd⟩:=hd
     have c3:(((k:Int) + 1) == (s.size:Int))=false:=by rw [beq_eq_false_iff_ne];omega
     have c4:(((s[k + 1]'hl2).toNat:Int) != 39)=false:=by rw [hd];rfl
     have HD:=Lib.hid hd
     have HQ:=Lib.hid hq
     clear hd hq
     go_wp2_with (go_at_call 127;refine (wbyte (w.heap.size + 1) _ acc (s[k + 1]'hl2) _ hB (by omega) hbs).mono ?_;rintro e w1 ⟨rfl,hB1,hb1⟩)
     go_roundw
     case rel =>
      refine ⟨k + 2,acc ++ [s[k + 1]'hl2],by go_num,by omega,by have:=HL.out;omega,hB1,hR.above hb1 (by omega),by simp;omega,?_⟩
      have h2:=HA.out
      rw [drop_at s k hlt,drop_at s (k + 1) hl2,HQ.out,HD.out,strA_twice] at h2
      rw [HD.out]
      exact strA_more hk1 h2
     case measure => simp [intOf];omega
    ·have hlast:Lx.strA (s.data.toList.drop 1)=some (acc,k):=by
      have h2:=HA.out
      rw [drop_at s k hlt,hq,strA_last] at h2
      ·rw [h2]
       simp only [Option.map_some,List.append_nil]
       congr 2
       omega
      ·intro h
       have hl2:k + 1 < s.size:=by
        rcases Nat.lt_or_ge (k + 1) s.size with h3 | h3
        ·exact h3
        ·rw [List.drop_of_length_le (by have:=HL.out;omega)] at h
         simp at h
       rw [drop_at s (k + 1) hl2] at h
       exact hd ⟨hl2,by simpa using h⟩
     have HT:Hid (tokVal (Lx.textA (s.data.toList.drop 1))=tokVal (if acc.length > 200 then .error 28 else .ok (⟨3,acc,0⟩,k + 1))):=Lib.hid (by unfold Lx.textA;rw [hlast])
     have R1:=hR
     clear hlast hR
     have c34:((((k:Int) + 1) == (s.size:Int))=true) ∨ (((((k:Int) + 1) == (s.size:Int))=false)∧∃ h:k + 1 < s.size,(((s[k + 1]'h).toNat:Int) != 39)=true):=by
      by_cases h3:k + 1=s.size
      ·left;rw [beq_iff_eq];omega
      ·right
       have h4:k + 1 < s.size:=by omega
       refine ⟨by rw [beq_eq_false_iff_ne];omega,h4,?_⟩
       rw [bne_iff_ne]
       intro h5
       exact hd ⟨h4,UInt8.toNat_inj.1 (by have e:(39:UInt8).toNat=39:=rfl;omega)⟩
     clear hd hq HA
     by_cases hlen:acc.length > 200
     ·have c5:decide (200 < (acc.length:Int))=true:=decide_eq_true (by omega)
      rw [if_pos hlen] at HT
      obtain ⟨k0,k1,k2,z0,z1,z2,sz,bl⟩:=R1
      rcases c34 with c3 | ⟨c3,hl2,c4⟩
      all_goals
       go_wp2_with (go_at_call 125;refine (len_calls (w.heap.size + 1) _ acc _ hB).mono ?_;rintro e w1 ⟨rfl,rfl⟩)
       refine bodyPost_ret (v:=.tuple #[.agg #[.int .i64 0,.string ⟨#[]⟩,.int .i64 0],.int .i64 0,.int .i64 28]) ?_ rfl ⟨?_,?_⟩
       ·simp [results,Tryz.results60,go_sem,k0,k1,k2,z0,z1,z2,sz]
       ·rw [HT.out];rfl
       ·exact ((bl.setCell (by simp) _).setCell (by simp) _).setCell (by simp) _
     ·have c5:decide (200 < (acc.length:Int))=false:=decide_eq_false (by omega)
      rw [if_neg hlen] at HT
      rcases c34 with c3 | ⟨c3,hl2,c4⟩
      all_goals
       go_wp2_with (first | (go_at_call 125;refine (len_calls (w.heap.size + 1) _ acc _ hB).mono ?_;rintro e w1 ⟨rfl,rfl⟩) | (go_at_call 126;refine (string_calls (w.heap.size + 1) _ acc _ hB hbs).mono ?_;rintro e w1 ⟨rfl,hb1⟩;obtain ⟨k0,k1,k2,z0,z1,z2,sz,bl⟩:=R1.above hb1 (by omega)))
       refine bodyPost_ret (v:=.tuple #[.agg #[.int .i64 3,.string (ba acc),.int .i64 0],.int .i64 (k + 1),.int .i64 0]) ?_ rfl ⟨?_,?_⟩
       ·simp [results,Tryz.results60,go_sem,k0,k1,k2,z0,z1,z2,sz]
       ·rw [HT.out];rfl
       ·exact ((bl.setCell (by simp) _).setCell (by simp) _).setCell (by simp) _
   ·have c2:(((s[k]'hlt).toNat:Int) == 39)=false:=by
     rw [beq_eq_false_iff_ne]
     intro h
     exact hq (UInt8.toNat_inj.1 (by have e:(39:UInt8).toNat=39:=rfl;omega))
    have hbs:w.heap.size + 1 ≤ wr.heap.size:=hR.sz
    go_wp2_with (go_at_call 127;refine (wbyte (w.heap.size + 1) _ acc (s[k]'hlt) _ hB (by omega) hbs).mono ?_;rintro e w1 ⟨rfl,hB1,hb1⟩)
    go_roundw
    case rel =>
     refine ⟨k + 1,acc ++ [s[k]'hlt],by go_num,by omega,by have:=HL.out;omega,hB1,hR.above hb1 (by omega),by simp;omega,?_⟩
     have h2:=HA.out
     rw [drop_at s k hlt,strA_other _ _ hq] at h2
     exact strA_more hk1 h2
    case measure => simp [intOf];omega
  ·have c1:decide ((k:Nat) < s.size)=false:=decide_eq_false hlt
   obtain ⟨k0,k1,k2,z0,z1,z2,sz,bl⟩:=hR
   go_wp2
   refine bodyPost_ret (v:=.tuple #[.agg #[.int .i64 0,.string ⟨#[]⟩,.int .i64 0],.int .i64 0,.int .i64 20]) ?_ rfl ⟨?_,?_⟩
   ·simp [results,Tryz.results60,go_sem,k0,k1,k2,z0,z1,z2,sz]
   ·have e1:s.data.toList.drop k=[]:=List.drop_of_length_le (by have:=HL.out;omega)
    have e2:=HA.out
    rw [e1] at e2
    have e3:Lx.strA (s.data.toList.drop 1)=none:=by rw [e2];rfl
    unfold Lx.textA
    rw [e3]
    rfl
   ·exact ((bl.setCell (by simp) _).setCell (by simp) _).setCell (by simp) _
theorem str_calls (s:ByteArray) (hs:s.size ≤ 4000) (c:UInt8) (r:List UInt8) (hl:s.data.toList=c :: r) (w:World) :
  Calls Tryz.prog 60 #[.string s] w fun e w' => e = .returned (tokVal (Lx.textA r))∧Below w.heap.size w w':=by
 have hls:s.data.toList.length=s.size:=by rw [Array.length_toList];rfl
 have h:=str_walk s hs (by rw [hl] at hls;simp at hls;omega) w
 have e:s.data.toList.drop 1=r:=by rw [hl];rfl
 unfold StrEnd at h
 rw [e] at h
 exact h
end Go.Proofs.YtcgdncpioafbdaaGreatDoor.Q
namespace Go.Proofs.YtcgdncpioafbdaaGreatDoor.Q
open Go Go.RowKit Go.Proofs.YtcgdncpioafbdaaGreatDoorW.PrintWords Go.Proofs.YtcgdncpioafbdaaGreatDoorW.PrintLast Go.Proofs.YtcgdncpioafbdaaGreatDoorW.PrintMore
set_option linter.unusedVariables false
set_option linter.unusedSimpArgs false
def fin (acc:List Lx.Tk):Except Nat (List Lx.Tk) → List S32 × Int
 | .error e => ([],(e:Int))
 | .ok ts => ((acc ++ ts).map tk32 ++ [z32],0)
theorem fin_nil (acc:List Lx.Tk):fin acc (.ok [])=(acc.map tk32 ++ [z32],0):=by simp [fin]
theorem fin_bind (acc:List Lx.Tk) (t:Lx.Tk) (x):fin acc (Lx.bindTok t x)=fin (acc ++ [t]) x:=by cases x <;> simp [fin,Lx.bindTok]
theorem goesT_ {P : Program} {ops : Array Oper} {Q : Exit → Act → World → Prop} {rest : List Oper} {oi : Oper} {a : Act} {w : World} (N : Option Tmp) (hd : oi.dst = N) (hg : oi.guard = none) {f : FuncId} {fn : Func} {x : Operand} {oa : Array Operand} {ts : Array TypeId} (hf : P.funcs[f]? = some fn) (hname : (fn.name == "runtime.NumGoroutine") = false) (hb : fn.body.isSome = true) (args : Array Value)
  (hop:oi.op = .call { callee:=.value x,args:=oa,argTypes:=ts }) (hx:a.eval x = .func (.func f) #[] #[]) (hargs:oa.map a.eval=args)
  (h:Calls P f args w fun e w' => ∃ v,e = .returned v∧wpList P ops Q rest (a.put N v) w'):wpList P ops Q (oi :: rest) a w:=by
 refine wpList_plain hg fun K hK => ?_
 have he:=enters_ hf hname hb args w
 have hrun:(execOp a.eval oi).run P w = .ok (.enter f args) w:=by
  unfold execOp
  simp [hop,resolve,Deferred.ofValue,invoke,hx,hargs,he]
 unfold Oper.wp
 rw [hrun,Oper.upon_enter]
 refine h.mono fun e w'' hh => ?_
 obtain ⟨v,rfl,hk⟩:=hh
 subst hd
 exact hK _ _ hk
structure Reads (s:ByteArray) (v:Value):Prop where
 ex : ∃ g fn, v = .func (.func g) #[] #[] ∧ Tryz.prog.funcs[g]? = some fn ∧ (fn.name == "runtime.NumGoroutine") = false ∧ fn.body.isSome = true ∧
  ∀ w,GV w → Calls Tryz.prog g #[.string s] w fun e w' => e = .returned (tokVal (Lx.tokA s.data.toList))∧Below w.heap.size w w'
theorem k58 {s:ByteArray} {c:UInt8} {l:List UInt8} (hl:s.data.toList=c :: l) (hc:Lx.isLetter c=true) (hs:s.size ≤ 4000):Reads s (.func (.func 58) #[] #[]):=by
 refine ⟨58,_,rfl,Tryz.func58,by kernel_rfl,rfl,fun w _ => ?_⟩
 have h:=lex_word.calls s _ _ _ _ _ w (word_is s hs)
 rw [show Lx.tokA s.data.toList=Lx.wordA s.data.toList by rw [hl];simp [Lx.tokA,hc]]
 exact h
theorem k59 {s:ByteArray} {c:UInt8} {l:List UInt8} (hl:s.data.toList=c :: l) (h1:Lx.isLetter c=false) (hc:Lx.isDigit c=true) (hs:s.size ≤ 4000):Reads s (.func (.func 59) #[] #[]):=by
 refine ⟨59,_,rfl,Tryz.func59,by kernel_rfl,rfl,fun w hG => ?_⟩
 have h:=num_calls s hs c l hl hc w hG
 rw [show Lx.tokA s.data.toList=Lx.numA s.data.toList by rw [hl];simp [Lx.tokA,hc,h1]]
 exact h
theorem rdk60 {s:ByteArray} {c:UInt8} {l:List UInt8} (hl:s.data.toList=c :: l) (h1:Lx.isLetter c=false) (h2:Lx.isDigit c=false) (hc:c=39) (hs:s.size ≤ 4000):Reads s (.func (.func 60) #[] #[]):=by
 refine ⟨60,_,rfl,Tryz.func60,by kernel_rfl,rfl,fun w _ => ?_⟩
 have h:=str_calls s hs c l hl w
 rw [show Lx.tokA s.data.toList=Lx.textA l by rw [hl];simp [Lx.tokA,hc,h1,h2];subst hc;simp [h1,h2]]
 exact h
theorem k56 {s:ByteArray} {c:UInt8} {l:List UInt8} (hl:s.data.toList=c :: l) (h1:Lx.isLetter c=false) (h2:Lx.isDigit c=false) (hc:c ≠ 39):Reads s (.func (.func 56) #[] #[]):=by
 refine ⟨56,_,rfl,Tryz.func56,by kernel_rfl,rfl,fun w _ => ?_⟩
 have h:=lex_sign.calls 1 s _ _ _ _ _ w (sign_of s c l hl)
 rw [show Lx.tokA s.data.toList=Lx.signT s.data.toList by rw [hl];simp [Lx.tokA,hc,h1,h2]]
 exact h
theorem tokA_err {l:List UInt8} {e:Nat} (h:Lx.tokA l = .error e):e ≠ 0:=by
 have h20:∀ {x:Nat},(20:Nat)=x → x ≠ 0:=fun h => by omega
 have h28:∀ {x:Nat},(28:Nat)=x → x ≠ 0:=fun h => by omega
 have h26:∀ {x:Nat},(26:Nat)=x → x ≠ 0:=fun h => by omega
 unfold Lx.tokA Lx.wordA Lx.numA Lx.textA Lx.signT at h
 repeat' (split at h)
 all_goals first | (cases h;decide) | (simp at h;omega) | (simp at h)
structure TokInv (kq:Nat) (s:ByteArray) (xs:List S32) (r:List S32 × Int):Prop where
 ex:∃ m acc,s.data.toList=Lx.skipA false m∧s.size ≤ 4000∧acc.length + s.size ≤ 4000∧xs=acc.map tk32∧fin acc (Lx.toks m)=r∧s.size < kq
theorem TokInv.nil {kq s xs r} (h:TokInv kq s xs r) (hs:s.data.toList=[]):(xs ++ [(⟨0,(⟨#[]⟩:ByteArray),0⟩:S32)],(0:Int))=r:=by
 obtain ⟨m,acc,h1,_,_,rfl,h5,_⟩:=h
 rw [← h5,Lx.toks_nil (h1.symm.trans hs),fin_nil]
 rfl
theorem data_len (s:ByteArray):s.data.toList.length=s.size:=by rw [Array.length_toList];rfl
theorem TokInv.step {k:Nat} {s:ByteArray} {xs:List S32} {r:List S32 × Int} (h:TokInv (k + 1) s xs r) {c:UInt8} {l:List UInt8} (hl:s.data.toList=c :: l) {t1:Int} {t2:ByteArray} {t3 t4 t5:Int} (ht:tokFlat (Lx.tokA s.data.toList)=(t1,t2,t3,t4,t5)) :
  (t5 ≠ 0∧(([]:List S32),t5)=r) ∨ (t5=0∧xs.length < 4398046511104∧0 ≤ t4∧t4 ≤ (s.size:Int)∧TokInv k (ba (Lx.skipA false (s.extract t4.toNat s.size).data.toList)) (xs ++ [(⟨t1,t2,t3⟩:S32)]) r∧lex_skip.f 4001 (s.extract t4.toNat s.size)=some (ba (Lx.skipA false (s.extract t4.toNat s.size).data.toList))):=by
 obtain ⟨m,acc,h1,h2,h3,rfl,h5,h6⟩:=h
 have hsk:Lx.skipA false m=c :: l:=h1.symm.trans hl
 have hn:=data_len s
 rw [hl] at ht
 cases htk:Lx.tokA (c :: l) with
 | error e =>
  rw [htk] at ht
  simp only [tokFlat,Prod.mk.injEq] at ht
  obtain ⟨_,_,_,_,rfl⟩:=ht
  left
  refine ⟨by have:=tokA_err htk;omega,?_⟩
  rw [← h5,Lx.toks_err hsk htk]
  rfl
 | ok p =>
  obtain ⟨t,n⟩:=p
  rw [htk] at ht
  simp only [tokFlat,Prod.mk.injEq] at ht
  obtain ⟨rfl,rfl,rfl,rfl,rfl⟩:=ht
  right
  have hle:=Lx.tokA_le htk
  rw [← hl,hn] at hle
  have hx:(s.extract ((n:Int)).toNat s.size).data.toList=s.data.toList.drop n:=by
   rw [Lib.extract_data,Int.toNat_natCast,List.take_of_length_le (by rw [List.length_drop];omega)]
  have hxs:(s.extract ((n:Int)).toNat s.size).size=s.size - n:=by rw [← data_len,hx,List.length_drop,hn]
  have hsl:=Lx.skipA_le false (s.data.toList.drop n)
  rw [List.length_drop,hn] at hsl
  refine ⟨rfl,by rw [List.length_map];omega,by omega,by omega,⟨s.data.toList.drop n,acc ++ [t],?_,?_,?_,?_,?_,?_⟩,skip_is 4000 4001 _ (by omega) (by omega) (by omega)⟩
  ·rw [ba_data,hx]
  ·rw [ba_size,hx];omega
  ·rw [ba_size,hx,List.length_append];simp;omega
  ·simp [tk32]
  ·rw [← h5,Lx.toks_ok hsk htk,fin_bind,hl]
  ·rw [ba_size,hx];omega
theorem TokInv.size {kq s xs r} (h:TokInv kq s xs r):s.size ≤ 4000:=by obtain ⟨m,acc,h1,h2,_⟩:=h;exact h2
theorem TokInv.len {kq s xs r} (h:TokInv kq s xs r):xs.length < 4398046511104:=by obtain ⟨m,acc,h1,h2,h3,rfl,_⟩:=h;rw [List.length_map];omega
theorem bt0 {s:ByteArray} {c:UInt8} {l:List UInt8} (hl:s.data.toList=c :: l):bt s 0=(c.toNat:Int):=bt_of s 0 c (by rw [hl];rfl)
theorem has_let {s:ByteArray} {c:UInt8} {l:List UInt8} (hl:s.data.toList=c :: l):lex_has.f letB (bt s 0)=some (Lx.isLetter c):=by rw [bt0 hl,has_is,let_is]
theorem has_dig {s:ByteArray} {c:UInt8} {l:List UInt8} (hl:s.data.toList=c :: l):lex_has.f digB (bt s 0)=some (Lx.isDigit c):=by rw [bt0 hl,has_is,dig_is]
end Go.Proofs.YtcgdncpioafbdaaGreatDoor.Q
namespace Go.Proofs.YtcgdncpioafbdaaGreatDoor.Q
open Go Go.RowKit Go.Proofs.YtcgdncpioafbdaaGreatDoorW.PrintWords Go.Proofs.YtcgdncpioafbdaaGreatDoorW.PrintLast Go.Proofs.YtcgdncpioafbdaaGreatDoorW.PrintMore
attribute [local go_sem] max2_int min2_int max_two min_two max_three min_three max_four min_four
set_option linter.unusedVariables false
set_option linter.unusedSimpArgs false
def lex_Tokens.T18:Bool × List (List Nat × List Nat):=(true,[([],[]),([],[]),([1],[1]),([0,2],[0,2]),([],[]),([],[]),([4,5],[4,5]),([3,3,0,1,2,3],[0,3]),([6,7,0,1,2,3,4,5,6,7],[4,6])])
def lex_Tokens.B18:List Nat:=[0,0,2,7,0,0,48,15,255]
theorem lex_Tokens.tab18:rtab .any (opsOf Tryz.f16 18)=lex_Tokens.T18:=by kernel_rfl
theorem lex_Tokens.bits18:waitsOk lex_Tokens.T18.2 lex_Tokens.B18=true:=by kernel_rfl
set_option maxHeartbeats 8000000 in
set_option maxRecDepth 100000 in
theorem lex_Tokens.calls (a0:ByteArray) (r1:List (S32)) (r2:Int) (w:World) (h:lex_Tokens.f a0=some (r1,r2)) (hG:GV w) :
  Calls Tryz.prog 16 #[.string a0] w fun e w' => ∃ v0_:Value,e = .returned (.tuple #[v0_,.int .i64 r2])∧Kd.R k32 32 w' w.heap.size (fun _ => True) v0_ r1∧Below w.heap.size w w':=by
 have hu32:=Tryz.underlying32
 have HB:=Aside0.mk (Below.refl w.heap.size w)
 have H:(if (a0.size:Int) > 4000 then (([]:List (S32)),(28:Int)) else fin [] (Lx.toks a0.data.toList))=(r1,r2):=by
  have h1:=h
  unfold lex_Tokens.f tokF at h1
  rw [Lx.lexA_toks,data_len] at h1
  by_cases c:a0.size > 4000
  ·rw [if_pos c] at h1
   rw [if_pos (by omega)]
   simpa using h1
  ·rw [if_neg c] at h1
   rw [if_neg (by omega)]
   cases hx:Lx.toks a0.data.toList with
   | error e => rw [hx] at h1;simpa [fin] using h1
   | ok ts => rw [hx] at h1;simpa [fin] using h1
 clear h
 by_cases c2:(a0.size:Int) > 4000
 ·rw [if_pos c2] at H
  have c2b0:decide (4000 < (a0.size:Int))=true:=decide_eq_true c2
  have c2b1:decide (4000 < a0.size)=true:=decide_eq_true (by omega)
  clear c2
  simp only [Prod.mk.injEq] at H
  obtain ⟨rfl,rfl⟩:=H
  go_enter Tryz.func16,Tryz.ntmps16
  go_wp2
  go_ret2
  exact ⟨_,rfl,Kd.R_nil _ _ _ _ _,(by repeat (first | (with_reducible first | exact HB.out | apply below_alloc | apply pw_below_drewN | apply below_drew1) | exact HB.out))⟩
 ·rw [if_neg c2] at H
  have c2b0:decide (4000 < (a0.size:Int))=false:=decide_eq_false c2
  have c2b1:decide (4000 < a0.size)=false:=decide_eq_false (by omega)
  have A3:=Aside0.mk (skip_is 4000 4001 a0 (by omega) (by omega) (by omega))
  have H':Aside0 (TokInv (a0.size + 1) (ba (Lx.skipA false a0.data.toList)) [] (r1,r2)):=⟨⟨a0.data.toList,[],by rw [ba_data],by rw [ba_size];have:=Lx.skipA_le false a0.data.toList;rw [data_len] at this;omega,by rw [ba_size];have:=Lx.skipA_le false a0.data.toList;rw [data_len] at this;simp;omega,rfl,H,by rw [ba_size];have:=Lx.skipA_le false a0.data.toList;rw [data_len] at this;omega⟩⟩
  clear c2 H
  obtain ⟨t154,ht154⟩:∃ t,ba (Lx.skipA false a0.data.toList)=t:=⟨_,rfl⟩
  rw [ht154] at A3 H'
  clear ht154
  obtain ⟨k,hk0⟩:∃ k,a0.size + 1=k:=⟨_,rfl⟩
  rw [hk0] at H'
  clear hk0
  go_enter Tryz.func16,Tryz.ntmps16
  go_wp2_with (first | ((with_reducible refine gate_callee (f:=55) rfl ?_);refine goesL_ (some 14) rfl rfl Tryz.func55 (by kernel_rfl) rfl #[.string a0] rfl (by (try simp only [List.map_toArray,List.map_cons,List.map_nil]);first | done | rfl) ?_;(with_reducible refine (lex_skip.calls 4001 a0 t154 _ A3.out (GV.below hG (by repeat (first | (with_reducible first | exact HB.out | apply below_alloc | apply pw_below_drewN | apply below_drew1) | exact HB.out)))).mono ?_);rintro e w4 ⟨rfl,hb⟩;refine ⟨_,rfl,?_⟩;have n0_:=Aside0.mk (below_step (by repeat (first | (with_reducible first | exact HB.out | apply below_alloc | apply pw_below_drewN | apply below_drew1) | exact HB.out)) hb);clear HB;have HB:=n0_;clear n0_;(try clear hb)))
  go_loopg [0,4] k (fun kq v0 v4 w' => ∃ (x0_1:ByteArray) (x4_1:List (S32)),v0 = .string x0_1∧Aside0 (TokInv kq x0_1 x4_1 (r1,r2))∧Aside0 (Kd.R k32 32 w' w.heap.size (fun _ => True) v4 x4_1)∧Aside0 (Below w.heap.size w w'))
  case atStart => exact ⟨(t154),(([]:List (S32))),rfl,H',⟨Kd.R_nil _ _ _ _ _⟩,⟨(by repeat (first | (with_reducible first | exact HB.out | apply below_alloc | apply pw_below_drewN | apply below_drew1) | exact HB.out))⟩⟩
  case round =>
   clear H'
   try clear c2b0
   try clear c2b1
   obtain ⟨x0_1,x4_1,rfl,HA,HO_4,HB⟩:=hrel
   cases gk with
   | zero => exact absurd HA.out (fun h => by obtain ⟨m,acc,_,_,_,_,_,h6⟩:=h;omega)
   | succ k1 =>
    cases hl:x0_1.data.toList with
    | nil =>
     have c5:x0_1.toList=([]:List UInt8):=(Lib.toList_data _).trans hl
     have c5b0:(x0_1.toList == ([]:List UInt8))=true:=beq_iff_eq.mpr c5
     have c5b1:(x0_1.toList != ([]:List UInt8))=false:=bne_eq_false_iff_eq.mpr c5
     have H:=HA.out.nil hl
     have LMc6:=Aside0.mk HA.out.len
     clear c5 hl HA
     obtain ⟨y155,hy155⟩:∃ y_:List (S32),y_=(x4_1 ++ [(⟨0,(⟨#[]⟩:ByteArray),0⟩:S32)]):=⟨_,rfl⟩
     rw [← hy155] at H
     have Ny155:=Aside0.mk hy155
     clear hy155
     simp only [Prod.mk.injEq] at H
     obtain ⟨rfl,rfl⟩:=H
     go_wp2_with (first | ((with_reducible refine gate_builtin (b:=.append) (xs:=#[.tmp 47,.tmp 49]) rfl ?_);at_builtin;refine Kd.R_append k32 (w0:=w) w.heap.size rfl (.tmp 47) (.tmp 49) 23 32 (.agg #[(.int .i64 0),(.string ⟨#[]⟩),(.int .i64 0)]) 32 rfl Tryz.underlying23 info32 rfl (by decide) (by omega) u4 x4_1 (⟨0,(⟨#[]⟩:ByteArray),0⟩:S32) [.int .i64 0,.string (⟨#[]⟩:ByteArray),.int .i64 0] (fun _ => True) (fun _ => False) rfl rfl ?aP (fun _ hk => hk.elim) ?aF ?aO ?aB ?aS ?aL ?_;(case aP => exact k32_mkM _ _ _ (⟨0,(⟨#[]⟩:ByteArray),0⟩:S32));(case aB => exact (by repeat (first | (with_reducible first | exact HB.out | apply below_alloc | apply pw_below_drewN | apply below_drew1) | exact HB.out)));(case aF => exact (fun _ _ => trivial));(case aO => exact (by (with_reducible repeat (first | apply Kd.R_alloc | apply Kd.R_drewN | apply Kd.R_drew));exact HO_4.out));(case aS => exact (below_size (by repeat (first | (with_reducible first | exact HB.out | apply below_alloc | apply pw_below_drewN | apply below_drew1) | exact HB.out))));(case aL => have:=LMc6.out;omega);intro v156 w7 ho hb hg hat;rw [← Ny155.out] at ho;have n0_:=Aside0.mk (hb);have n1_:=Aside0.mk (ho);clear HB;clear HO_4;have HB:=n0_;have HO157:=n1_;clear n0_ n1_;clear ho hb hg hat))
     go_ret2
     exact ⟨_,by first | rfl | (simp [errW_none,errW_some] <;> rfl) | (simp [*,errW_none,errW_some] <;> rfl),by (with_reducible repeat (first | apply Kd.R_alloc | apply Kd.R_drewN | apply Kd.R_drew));exact HO157.out,by repeat (first | (with_reducible first | exact HB.out | apply below_alloc | apply pw_below_drewN | apply below_drew1) | exact HB.out)⟩
    | cons c l =>
     have c5:x0_1.toList ≠ ([]:List UInt8):=by rw [Lib.toList_data,hl];simp
     have c5b0:(x0_1.toList == ([]:List UInt8))=false:=beq_eq_false_iff_ne.mpr c5
     have c5b1:(x0_1.toList != ([]:List UInt8))=true:=bne_iff_ne.mpr c5
     clear c5
     have hsz0:0 < x0_1.size:=by rw [← data_len,hl];simp
     have hsz4:=HA.out.size
     have c8b0:decide (0 < (x0_1.size:Int))=true:=decide_eq_true (by omega)
     have c8b1:decide (0 < x0_1.size)=true:=decide_eq_true (by omega)
     have q9:0 < x0_1.size:=hsz0
     have hx9:∀ h:0 < x0_1.size,((x0_1[0]'h).toNat:Int)=bt x0_1 0:=bt_at x0_1 0
     have qi9:(0 < (x0_1.size:Int))=True:=eq_true (by omega)
     replace q9:=eq_true q9
     have A11:=Aside0.mk (has_let hl)
     have A13:=Aside0.mk (has_dig hl)
     have B0:=Aside0.mk (bt0 hl)
     have HL:=Aside0.mk hl
     have HS:=Aside0.mk hsz4
     clear hl hsz0 hsz4
     go_upto_block 2 with (fail)
     go_cut [5] (fun v5 wc => Aside0 (Reads x0_1 v5)∧Aside0 (Kd.R k32 32 wc w.heap.size (fun _ => True) u4 x4_1)∧Aside0 (Below w.heap.size w wc))
     case first =>
      cases c12:Lx.isLetter c with
      | true =>
       rw [c12] at A11
       have K:=Aside0.mk (k58 HL.out c12 HS.out)
       clear c12
       go_wp2_with (first | ((with_reducible refine gate_callee (f:=57) rfl ?_);refine goesL_ (some 23) rfl rfl Tryz.func57 (by kernel_rfl) rfl #[.string (⟨#[97,98,99,100,101,102,103,104,105,106,107,108,109,110,111,112,113,114,115,116,117,118,119,120,121,122,65,66,67,68,69,70,71,72,73,74,75,76,77,78,79,80,81,82,83,84,85,86,87,88,89,90]⟩:ByteArray),.int .u8 (bt x0_1 0)] rfl (by (try simp only [List.map_toArray,List.map_cons,List.map_nil]);first | done | rfl) ?_;(with_reducible refine (lex_has.calls (⟨#[97,98,99,100,101,102,103,104,105,106,107,108,109,110,111,112,113,114,115,116,117,118,119,120,121,122,65,66,67,68,69,70,71,72,73,74,75,76,77,78,79,80,81,82,83,84,85,86,87,88,89,90]⟩:ByteArray) (bt x0_1 0) true _ A11.out).mono ?_);rintro e w' ⟨rfl,⟨nd,rfl⟩⟩;refine ⟨_,rfl,?_⟩))
       go_meet
       case rel => exact ⟨K,⟨by (with_reducible repeat (first | apply Kd.R_alloc | apply Kd.R_drewN | apply Kd.R_drew));exact HO_4.out⟩,⟨(by repeat (first | (with_reducible first | exact HB.out | apply below_alloc | apply pw_below_drewN | apply below_drew1) | exact HB.out))⟩⟩
      | false =>
       rw [c12] at A11
       cases c14:Lx.isDigit c with
       | true =>
        rw [c14] at A13
        have K:=Aside0.mk (k59 HL.out c12 c14 HS.out)
        clear c12 c14
        go_wp2_with (first | ((with_reducible refine gate_callee (f:=57) rfl ?_);refine goesL_ (some 23) rfl rfl Tryz.func57 (by kernel_rfl) rfl #[.string (⟨#[97,98,99,100,101,102,103,104,105,106,107,108,109,110,111,112,113,114,115,116,117,118,119,120,121,122,65,66,67,68,69,70,71,72,73,74,75,76,77,78,79,80,81,82,83,84,85,86,87,88,89,90]⟩:ByteArray),.int .u8 (bt x0_1 0)] rfl (by (try simp only [List.map_toArray,List.map_cons,List.map_nil]);first | done | rfl) ?_;(with_reducible refine (lex_has.calls (⟨#[97,98,99,100,101,102,103,104,105,106,107,108,109,110,111,112,113,114,115,116,117,118,119,120,121,122,65,66,67,68,69,70,71,72,73,74,75,76,77,78,79,80,81,82,83,84,85,86,87,88,89,90]⟩:ByteArray) (bt x0_1 0) false _ A11.out).mono ?_);rintro e w' ⟨rfl,⟨nd,rfl⟩⟩;refine ⟨_,rfl,?_⟩) | ((with_reducible refine gate_callee (f:=57) rfl ?_);refine goesL_ (some 26) rfl rfl Tryz.func57 (by kernel_rfl) rfl #[.string (⟨#[48,49,50,51,52,53,54,55,56,57]⟩:ByteArray),.int .u8 (bt x0_1 0)] rfl (by (try simp only [List.map_toArray,List.map_cons,List.map_nil]);first | done | rfl) ?_;(with_reducible refine (lex_has.calls (⟨#[48,49,50,51,52,53,54,55,56,57]⟩:ByteArray) (bt x0_1 0) true _ A13.out).mono ?_);rintro e w' ⟨rfl,⟨nd,rfl⟩⟩;refine ⟨_,rfl,?_⟩))
        go_meet
        case rel => exact ⟨K,⟨by (with_reducible repeat (first | apply Kd.R_alloc | apply Kd.R_drewN | apply Kd.R_drew));exact HO_4.out⟩,⟨(by repeat (first | (with_reducible first | exact HB.out | apply below_alloc | apply pw_below_drewN | apply below_drew1) | exact HB.out))⟩⟩
       | false =>
        rw [c14] at A13
        by_cases c15:c=39
        ·have c16:(bt x0_1 0)=39:=by rw [B0.out,c15];rfl
         have c15b0:((bt x0_1 0) == 39)=true:=beq_iff_eq.mpr c16
         have c15b1:((bt x0_1 0) != 39)=false:=bne_eq_false_iff_eq.mpr c16
         have K:=Aside0.mk (rdk60 HL.out c12 c14 c15 HS.out)
         clear c12 c14 c15 c16
         go_wp2_with (first | ((with_reducible refine gate_callee (f:=57) rfl ?_);refine goesL_ (some 23) rfl rfl Tryz.func57 (by kernel_rfl) rfl #[.string (⟨#[97,98,99,100,101,102,103,104,105,106,107,108,109,110,111,112,113,114,115,116,117,118,119,120,121,122,65,66,67,68,69,70,71,72,73,74,75,76,77,78,79,80,81,82,83,84,85,86,87,88,89,90]⟩:ByteArray),.int .u8 (bt x0_1 0)] rfl (by (try simp only [List.map_toArray,List.map_cons,List.map_nil]);first | done | rfl) ?_;(with_reducible refine (lex_has.calls (⟨#[97,98,99,100,101,102,103,104,105,106,107,108,109,110,111,112,113,114,115,116,117,118,119,120,121,122,65,66,67,68,69,70,71,72,73,74,75,76,77,78,79,80,81,82,83,84,85,86,87,88,89,90]⟩:ByteArray) (bt x0_1 0) false _ A11.out).mono ?_);rintro e w' ⟨rfl,⟨nd,rfl⟩⟩;refine ⟨_,rfl,?_⟩) | ((with_reducible refine gate_callee (f:=57) rfl ?_);refine goesL_ (some 26) rfl rfl Tryz.func57 (by kernel_rfl) rfl #[.string (⟨#[48,49,50,51,52,53,54,55,56,57]⟩:ByteArray),.int .u8 (bt x0_1 0)] rfl (by (try simp only [List.map_toArray,List.map_cons,List.map_nil]);first | done | rfl) ?_;(with_reducible refine (lex_has.calls (⟨#[48,49,50,51,52,53,54,55,56,57]⟩:ByteArray) (bt x0_1 0) false _ A13.out).mono ?_);rintro e w' ⟨rfl,⟨nd,rfl⟩⟩;refine ⟨_,rfl,?_⟩))
         go_meet
         case rel => exact ⟨K,⟨by (with_reducible repeat (first | apply Kd.R_alloc | apply Kd.R_drewN | apply Kd.R_drew));exact HO_4.out⟩,⟨(by repeat (first | (with_reducible first | exact HB.out | apply below_alloc | apply pw_below_drewN | apply below_drew1) | exact HB.out))⟩⟩
        ·have c16:(bt x0_1 0) ≠ 39:=by rw [B0.out];intro h;exact c15 (UInt8.toNat_inj.1 (by have e:(39:UInt8).toNat=39:=rfl;omega))
         have c15b0:((bt x0_1 0) == 39)=false:=beq_eq_false_iff_ne.mpr c16
         have c15b1:((bt x0_1 0) != 39)=true:=bne_iff_ne.mpr c16
         have K:=Aside0.mk (k56 HL.out c12 c14 c15)
         clear c12 c14 c15 c16
         go_wp2_with (first | ((with_reducible refine gate_callee (f:=57) rfl ?_);refine goesL_ (some 23) rfl rfl Tryz.func57 (by kernel_rfl) rfl #[.string (⟨#[97,98,99,100,101,102,103,104,105,106,107,108,109,110,111,112,113,114,115,116,117,118,119,120,121,122,65,66,67,68,69,70,71,72,73,74,75,76,77,78,79,80,81,82,83,84,85,86,87,88,89,90]⟩:ByteArray),.int .u8 (bt x0_1 0)] rfl (by (try simp only [List.map_toArray,List.map_cons,List.map_nil]);first | done | rfl) ?_;(with_reducible refine (lex_has.calls (⟨#[97,98,99,100,101,102,103,104,105,106,107,108,109,110,111,112,113,114,115,116,117,118,119,120,121,122,65,66,67,68,69,70,71,72,73,74,75,76,77,78,79,80,81,82,83,84,85,86,87,88,89,90]⟩:ByteArray) (bt x0_1 0) false _ A11.out).mono ?_);rintro e w' ⟨rfl,⟨nd,rfl⟩⟩;refine ⟨_,rfl,?_⟩) | ((with_reducible refine gate_callee (f:=57) rfl ?_);refine goesL_ (some 26) rfl rfl Tryz.func57 (by kernel_rfl) rfl #[.string (⟨#[48,49,50,51,52,53,54,55,56,57]⟩:ByteArray),.int .u8 (bt x0_1 0)] rfl (by (try simp only [List.map_toArray,List.map_cons,List.map_nil]);first | done | rfl) ?_;(with_reducible refine (lex_has.calls (⟨#[48,49,50,51,52,53,54,55,56,57]⟩:ByteArray) (bt x0_1 0) false _ A13.out).mono ?_);rintro e w' ⟨rfl,⟨nd,rfl⟩⟩;refine ⟨_,rfl,?_⟩))
         go_meet
         case rel => exact ⟨K,⟨by (with_reducible repeat (first | apply Kd.R_alloc | apply Kd.R_drewN | apply Kd.R_drew));exact HO_4.out⟩,⟨(by repeat (first | (with_reducible first | exact HB.out | apply below_alloc | apply pw_below_drewN | apply below_drew1) | exact HB.out))⟩⟩
     case rest =>
      try clear c8b0
      try clear c8b1
      try clear q9
      try clear hx9
      try clear qi9
      obtain ⟨HF,HO_4,HB⟩:=hcut
      obtain ⟨⟨gf,fn,rfl,hfn,hname,hbody,hcall⟩⟩:=HF.out
      clear HF
      obtain ⟨⟨t160,t161,t162,t163,t164⟩,ht16⟩:∃ t,tokFlat (Lx.tokA x0_1.data.toList)=t:=⟨_,rfl⟩
      have HC:Aside0 (∀ w,GV w → Calls Tryz.prog gf #[.string x0_1] w fun e w' => e = .returned (.tuple #[.agg #[.int .i64 t160,.string t161,.int .i64 t162],.int .i64 t163,.int .i64 t164])∧Below w.heap.size w w'):=⟨fun w1 h1 => by have h2:=hcall w1 h1;unfold tokVal at h2;rw [ht16] at h2;exact h2⟩
      have H:=HA.out.step HL.out ht16
      clear hcall ht16 HA HL HS B0 A11 A13
      rcases H with ⟨c17,H⟩ | ⟨rfl,LM,c19,c20,H',A21⟩
      ·have c17b0:(t164 == 0)=false:=beq_eq_false_iff_ne.mpr c17
       have c17b1:(t164 != 0)=true:=bne_iff_ne.mpr c17
       simp only [Prod.mk.injEq] at H
       obtain ⟨rfl,rfl⟩:=H
       go_wp2_with (first | (refine goesT_ (x:=.tmp 31) (some 33) rfl rfl hfn hname hbody #[.string x0_1] rfl rfl (by (try simp only [List.map_toArray,List.map_cons,List.map_nil]);first | done | rfl) ?_;(refine (HC.out _ (GV.below hG (by repeat (first | (with_reducible first | exact HB.out | apply below_alloc | apply pw_below_drewN | apply below_drew1) | exact HB.out)))).mono ?_);rintro e w29 ⟨rfl,hb⟩;refine ⟨_,rfl,?_⟩;have n0_:=Aside0.mk (Kd.R_below (by (with_reducible repeat (first | apply Kd.R_alloc | apply Kd.R_drewN | apply Kd.R_drew));exact HO_4.out) hb);have n1_:=Aside0.mk (below_step (by repeat (first | (with_reducible first | exact HB.out | apply below_alloc | apply pw_below_drewN | apply below_drew1) | exact HB.out)) hb);clear HO_4;clear HB;have HO_4:=n0_;have HB:=n1_;clear n0_ n1_;(try clear hb);(try clear hb2);(try clear hk);(try clear hi)) | ((with_reducible refine gate_dst (N:=7) rfl ?_);refine box_event ?hg (N:=7) ?hd (cs:=#[.int .i64 0,.string (⟨#[]⟩:ByteArray),.int .i64 0]) (t:=32) ?hr ?_;(case hd => rfl);(case hg => rfl);(case hr => first | (go_simp;done) | (go_simp;rfl));intro gb165 hg w30 hbox hb;have n0_:=Aside0.mk (Kd.R_below (Kd.R_elderB (by (with_reducible repeat (first | apply Kd.R_alloc | apply Kd.R_drewN | apply Kd.R_drew));exact HO_4.out) gb165 (Nat.le_of_eq hg.symm)) hb);have n1_:=Aside0.mk (below_step (by repeat (first | (with_reducible first | exact HB.out | apply below_alloc | apply pw_below_drewN | apply below_drew1) | exact HB.out)) hb);have n2_:=Aside0.mk (hbox);have n3_:=Aside0.mk ((by rw [hg];exact (below_size (by repeat (first | (with_reducible first | exact HB.out | apply below_alloc | apply pw_below_drewN | apply below_drew1) | exact HB.out))):w.heap.size ≤ gb165));have n4_:=Aside0.mk ((by rw [hg];exact (below_size (by repeat (first | (with_reducible first | exact HB.out | apply below_alloc | apply pw_below_drewN | apply below_drew1) | exact HB.out))):w.heap.size ≤ gb165));clear HO_4;clear HB;have HO_4:=n0_;have HB:=n1_;have BK165:=n2_;have GW165:=n3_;have GE165:=n4_;clear n0_ n1_ n2_ n3_ n4_;clear hb hbox hg;have hcz31_0:w30.cell? ⟨gb165,0,none⟩=some (.int .i64 0):=(blk_cell BK165.out 0).trans rfl;have hcz31_1:w30.cell? ⟨gb165,1,none⟩=some (.string (⟨#[]⟩:ByteArray)):=(blk_cell BK165.out 1).trans rfl;have hcz31_2:w30.cell? ⟨gb165,2,none⟩=some (.int .i64 0):=(blk_cell BK165.out 2).trans rfl;have hfz31_0:=blk_frozen BK165.out 0;have hfz31_1:=blk_frozen BK165.out 1;have hfz31_2:=blk_frozen BK165.out 2))
       go_ret2
       exact ⟨_,by first | rfl | (simp [errW_none,errW_some] <;> rfl) | (simp [*,errW_none,errW_some] <;> rfl),by first | exact Kd.R_nil _ _ _ _ _ | exact Kd.N_nil _ _ _ _ _ | exact Kd.V_nil _ _ _ _ _ | exact Kd.Q_nil _ _ _ _ _ | exact Kd.S_nil _ _ _ _ _,by repeat (first | (with_reducible first | exact HB.out | apply below_alloc | apply pw_below_drewN | apply below_drew1 | refine below_set ?_ GE165.out) | exact HB.out)⟩
      ·have c17b0:((0:Int) == 0)=true:=rfl
       have c17b1:((0:Int) != 0)=false:=rfl
       have LMc18:=Aside0.mk LM
       clear LM
       obtain ⟨y166,hy166⟩:∃ y_:List (S32),y_=(x4_1 ++ [(⟨t160,t161,t162⟩:S32)]):=⟨_,rfl⟩
       rw [← hy166] at H'
       have Ny166:=Aside0.mk hy166
       clear hy166
       have c19b0:=eq_true c19
       have c19b1:decide (0 ≤ t163)=true:=decide_eq_true c19
       have c20b0:=eq_true c20
       have c20b1:decide (t163 ≤ (x0_1.size:Int))=true:=decide_eq_true c20
       clear c19 c20
       obtain ⟨t169,ht169⟩:∃ t,ba (Lx.skipA false (x0_1.extract t163.toNat x0_1.size).data.toList)=t:=⟨_,rfl⟩
       rw [ht169] at A21 H'
       replace A21:=Aside0.mk A21
       replace H':=Aside0.mk H'
       clear ht169
       try go_wp2_with (first | (refine goesT_ (x:=.tmp 31) (some 33) rfl rfl hfn hname hbody #[.string x0_1] rfl rfl (by (try simp only [List.map_toArray,List.map_cons,List.map_nil]);first | done | rfl) ?_;(refine (HC.out _ (GV.below hG (by repeat (first | (with_reducible first | exact HB.out | apply below_alloc | apply pw_below_drewN | apply below_drew1) | exact HB.out)))).mono ?_);rintro e w22 ⟨rfl,hb⟩;refine ⟨_,rfl,?_⟩;have n0_:=Aside0.mk (Kd.R_below (by (with_reducible repeat (first | apply Kd.R_alloc | apply Kd.R_drewN | apply Kd.R_drew));exact HO_4.out) hb);have n1_:=Aside0.mk (below_step (by repeat (first | (with_reducible first | exact HB.out | apply below_alloc | apply pw_below_drewN | apply below_drew1) | exact HB.out)) hb);clear HO_4;clear HB;have HO_4:=n0_;have HB:=n1_;clear n0_ n1_;(try clear hb);(try clear hb2);(try clear hk);(try clear hi)) | ((with_reducible refine gate_dst (N:=7) rfl ?_);refine box_event ?hg (N:=7) ?hd (cs:=#[.int .i64 0,.string (⟨#[]⟩:ByteArray),.int .i64 0]) (t:=32) ?hr ?_;(case hd => rfl);(case hg => rfl);(case hr => first | (go_simp;done) | (go_simp;rfl));intro gb165 hg w23 hbox hb;have n0_:=Aside0.mk (Kd.R_below (Kd.R_elderB (by (with_reducible repeat (first | apply Kd.R_alloc | apply Kd.R_drewN | apply Kd.R_drew));exact HO_4.out) gb165 (Nat.le_of_eq hg.symm)) hb);have n1_:=Aside0.mk (below_step (by repeat (first | (with_reducible first | exact HB.out | apply below_alloc | apply pw_below_drewN | apply below_drew1) | exact HB.out)) hb);have n2_:=Aside0.mk (hbox);have n3_:=Aside0.mk ((by rw [hg];exact (below_size (by repeat (first | (with_reducible first | exact HB.out | apply below_alloc | apply pw_below_drewN | apply below_drew1) | exact HB.out))):w.heap.size ≤ gb165));have n4_:=Aside0.mk ((by rw [hg];exact (below_size (by repeat (first | (with_reducible first | exact HB.out | apply below_alloc | apply pw_below_drewN | apply below_drew1) | exact HB.out))):w.heap.size ≤ gb165));clear HO_4;clear HB;have HO_4:=n0_;have HB:=n1_;have BK165:=n2_;have GW165:=n3_;have GE165:=n4_;clear n0_ n1_ n2_ n3_ n4_;clear hb hbox hg;have hcz24_0:w23.cell? ⟨gb165,0,none⟩=some (.int .i64 0):=(blk_cell BK165.out 0).trans rfl;have hcz24_1:w23.cell? ⟨gb165,1,none⟩=some (.string (⟨#[]⟩:ByteArray)):=(blk_cell BK165.out 1).trans rfl;have hcz24_2:w23.cell? ⟨gb165,2,none⟩=some (.int .i64 0):=(blk_cell BK165.out 2).trans rfl;have hfz24_0:=blk_frozen BK165.out 0;have hfz24_1:=blk_frozen BK165.out 1;have hfz24_2:=blk_frozen BK165.out 2))
       have n0_:Aside0 (Kd.R k32 32 (((w23.setCell ⟨gb165,0,none⟩ (.int .i64 t160)).setCell ⟨gb165,1,none⟩ (.string t161)).setCell ⟨gb165,2,none⟩ (.int .i64 t162)) w.heap.size (fun k_ => k_ ≠ gb165) u4 x4_1):=⟨by (with_reducible repeat (first | apply Kd.R_alloc | apply Kd.R_drewN | apply Kd.R_drew));exact Kd.R_mono (Kd.R_far (p:=⟨gb165,2,none⟩) (Kd.R_far (p:=⟨gb165,1,none⟩) (Kd.R_far (p:=⟨gb165,0,none⟩) (Kd.R_mono HO_4.out (fun k_ hk => (⟨hk,hk.2⟩:_∧k_ ≠ gb165))) (fun _ hk => hk.2) (.int .i64 t160)) (fun _ hk => hk.2) (.string t161)) (fun _ hk => hk.2) (.int .i64 t162)) (fun _ hk => hk.1.2)⟩
       have n1_:Aside0 ((((w23.setCell ⟨gb165,0,none⟩ (.int .i64 t160)).setCell ⟨gb165,1,none⟩ (.string t161)).setCell ⟨gb165,2,none⟩ (.int .i64 t162)).heap[gb165]? = some (.cells #[.int .i64 t160,.string t161,.int .i64 t162] 32 (0,0))):=⟨by (with_reducible repeat (first | refine blk_drewN ?_ _ | refine blk_drew ?_ | refine blk_alloc ?_ _));refine blk_put (cs:=#[.int .i64 t160,.string t161,.int .i64 0]) ?_ 2 _ rfl;(with_reducible repeat (first | refine blk_drewN ?_ _ | refine blk_drew ?_ | refine blk_alloc ?_ _));refine blk_put (cs:=#[.int .i64 t160,.string (⟨#[]⟩:ByteArray),.int .i64 0]) ?_ 1 _ rfl;(with_reducible repeat (first | refine blk_drewN ?_ _ | refine blk_drew ?_ | refine blk_alloc ?_ _));refine blk_put (cs:=#[.int .i64 0,.string (⟨#[]⟩:ByteArray),.int .i64 0]) ?_ 0 _ rfl;(with_reducible repeat (first | refine blk_drewN ?_ _ | refine blk_drew ?_ | refine blk_alloc ?_ _));exact BK165.out⟩
       have n2_:Aside0 (Below w.heap.size w (((w23.setCell ⟨gb165,0,none⟩ (.int .i64 t160)).setCell ⟨gb165,1,none⟩ (.string t161)).setCell ⟨gb165,2,none⟩ (.int .i64 t162))):=⟨by repeat (first | (with_reducible first | exact HB.out | apply below_alloc | apply pw_below_drewN | apply below_drew1 | refine below_set ?_ GE165.out) | exact HB.out)⟩
       (try clear HO_4)
       (try clear BK165)
       (try clear HB)
       generalize (((w23.setCell ⟨gb165,0,none⟩ (.int .i64 t160)).setCell ⟨gb165,1,none⟩ (.string t161)).setCell ⟨gb165,2,none⟩ (.int .i64 t162))=w25 at n0_ n1_ n2_ ⊢
       have HO_4:=n0_
       have BK165:=n1_
       have HB:=n2_
       clear n0_ n1_ n2_
       have n0_:=Aside0.mk (Kd.R_drew HO_4.out)
       have n1_:=Aside0.mk (blk_drew BK165.out)
       have n2_:=Aside0.mk (below_drew1 HB.out)
       clear HO_4
       clear BK165
       clear HB
       have HO_4:=n0_
       have BK165:=n1_
       have HB:=n2_
       clear n0_ n1_ n2_
       refine start_ (n:=9) (S:=fun w' => w'.cell? ⟨gb165,0,none⟩=some (.int .i64 t160)∧w'.cell? ⟨gb165,1,none⟩=some (.string t161)∧w'.cell? ⟨gb165,2,none⟩=some (.int .i64 t162)) (ds:=[]) #[false,false,false,false,false,false,false,false,false] (by kernel_rfl) rfl rfl ⟨(blk_cell BK165.out 0).trans rfl,(blk_cell BK165.out 1).trans rfl,(blk_cell BK165.out 2).trans rfl⟩ (fun hHeld => ?_);refine with_tabW lex_Tokens.tab18 lex_Tokens.bits18 (fun HT_ HW_ => ?_)
       generalize w25.drew=w26 at HO_4 BK165 HB hHeld ⊢
       refine pure_ (i:=0) (N:=some 40) (v:=?_) (a':=?_) #[true,false,false,false,false,false,false,false,false] rfl rfl (any_of HT_.out (by kernel_rfl)) (fun _ _ _ h => h) (Or.inl ⟨by rfl,?_⟩) ?_ ?_
       rotate_left
       ·intro w'
        go_simp
        with_reducible rfl
       rotate_left
       ·simp only [Act.put,List.setIfInBounds_toArray,List.set_cons_zero,List.set_cons_succ,i64_w,i32_w]
        rfl
       refine pure_ (i:=4) (N:=some 44) (v:=?_) (a':=?_) #[true,false,false,false,true,false,false,false,false] rfl rfl (any_of HT_.out (by kernel_rfl)) (fun _ _ _ h => h) (Or.inl ⟨by rfl,?_⟩) ?_ ?_
       rotate_left
       ·intro w'
        go_simp
        with_reducible rfl
       rotate_left
       ·simp only [Act.put,List.setIfInBounds_toArray,List.set_cons_zero,List.set_cons_succ,i64_w,i32_w]
        rfl
       refine pure_ (i:=5) (N:=some 45) (v:=?_) (a':=?_) #[true,false,false,false,true,true,false,false,false] rfl rfl (any_of HT_.out (by kernel_rfl)) (fun _ _ _ h => h) (Or.inl ⟨by rfl,?_⟩) ?_ ?_
       rotate_left
       ·intro w'
        go_simp
        with_reducible rfl
       rotate_left
       ·simp only [Act.put,List.setIfInBounds_toArray,List.set_cons_zero,List.set_cons_succ,i64_w,i32_w]
        rfl
       refine pure_ (i:=6) (N:=some 46) (v:=?_) (a':=?_) #[true,false,false,false,true,true,true,false,false] rfl rfl (any_of HT_.out (by kernel_rfl)) (fun _ _ _ h => h) (Or.inl ⟨by rfl,?_⟩) ?_ ?_
       rotate_left
       ·intro w'
        go_simp
        with_reducible rfl
       rotate_left
       ·simp only [Act.put,List.setIfInBounds_toArray,List.set_cons_zero,List.set_cons_succ,i64_w,i32_w]
        rfl
       refine take_ (i:=1) (N:=some 41) (v:=?_) (a':=?_) #[true,true,false,false,true,true,true,false,false] rfl rfl (take_ofW HT_.out HW_.out (by kernel_rfl)) (fun _ _ _ h => h) (Or.inl ⟨by rfl,?_⟩) hHeld ?_ ?_
       rotate_left
       ·rintro w' ⟨s0,s1,s2⟩
        go_simp
        with_reducible rfl
       rotate_left
       ·simp only [Act.put,List.setIfInBounds_toArray,List.set_cons_zero,List.set_cons_succ,i64_w,i32_w]
        rfl
       refine one_ (i:=2) (N:=some 42) #[true,true,true,false,true,true,true,false,false] rfl rfl (one_of HT_.out (by kernel_rfl)) (by decide) (fun K hK => ?_)
       refine value_ (w1:=?_) (v:=?_) (by rfl) rfl ?_ ?_
       rotate_left 2
       ·go_simp
        constructor
        ·rfl
        ·rfl
       refine hK.out _ _ ⟨(blk_cell (blk_alloc BK165.out _) 0).trans rfl,(blk_cell (blk_alloc BK165.out _) 1).trans rfl,(blk_cell (blk_alloc BK165.out _) 2).trans rfl⟩ (fun hHeld => ?_)
       clear hK K
       refine norm_ (a':=?_) ?_ ?_
       rotate_left
       ·show Act.put _ (some 42) _=_
        simp only [Act.put,List.setIfInBounds_toArray,List.set_cons_zero,List.set_cons_succ,i64_w,i32_w]
        rfl
       refine one_ (i:=3) (N:=some 43) #[true,true,true,true,true,true,true,false,false] rfl rfl (one_of HT_.out (by kernel_rfl)) (by decide) (fun K hK => ?_)
       refine Kd.R_append_step k32 (w0:=w) w.heap.size (by rfl) (.tmp 40) (.tmp 42) 23 32 (.agg #[(.int .i64 0),(.string ⟨#[]⟩),(.int .i64 0)]) 32 rfl Tryz.underlying23 info32 rfl (by decide) (by omega) u4 x4_1 (⟨t160,t161,t162⟩:S32) [.int .i64 t160,.string t161,.int .i64 t162] (fun k_ => k_ ≠ gb165) (fun _ => False) rfl rfl ?aP (fun _ hk => hk.elim) ?aF ?aO ?aB ?aS ?aL ?_
       (case aP => exact k32_mkM _ _ _ (⟨t160,t161,t162⟩:S32))
       (case aB => exact (by repeat (first | (with_reducible first | exact HB.out | apply below_alloc | apply pw_below_drewN | apply below_drew1 | refine below_set ?_ GE165.out) | exact HB.out)))
       (case aF => exact (fun k_ hk => Kd.freshB (g:=gb165) (o:=.cells #[.int .i64 t160,.string t161,.int .i64 t162] 32 (0,0)) (by (with_reducible repeat (first | refine blk_drewN ?_ _ | refine blk_drew ?_ | refine blk_alloc ?_ _));exact BK165.out) k_ hk))
       (case aO => exact (by (with_reducible repeat (first | apply Kd.R_alloc | apply Kd.R_drewN | apply Kd.R_drew));exact HO_4.out))
       (case aS => exact (below_size (by repeat (first | (with_reducible first | exact HB.out | apply below_alloc | apply pw_below_drewN | apply below_drew1 | refine below_set ?_ GE165.out) | exact HB.out))))
       (case aL => have:=LMc18.out;omega)
       intro v167 w27 ho hb hg hat
       rw [← Ny166.out] at ho
       have n0_:=Aside0.mk (blk_grown (g:=gb165) (o:=.cells #[.int .i64 t160,.string t161,.int .i64 t162] 32 (0,0)) (by (with_reducible repeat (first | refine blk_drewN ?_ _ | refine blk_drew ?_ | refine blk_alloc ?_ _));exact BK165.out) hg (Kd.R_away HO_4.out (fun _ hk => hk)))
       have n1_:=Aside0.mk (hb)
       have n2_:=Aside0.mk (ho)
       clear BK165
       clear HB
       clear HO_4
       have BK165:=n0_
       have HB:=n1_
       have HO168:=n2_
       clear n0_ n1_ n2_
       clear ho hb hg hat
       refine hK.out _ _ ⟨(blk_cell BK165.out 0).trans rfl,(blk_cell BK165.out 1).trans rfl,(blk_cell BK165.out 2).trans rfl⟩ (fun hHeld => ?_)
       clear hK K
       refine norm_ (a':=?_) ?_ ?_
       rotate_left
       ·show Act.put _ (some 43) _=_
        simp only [Act.put,List.setIfInBounds_toArray,List.set_cons_zero,List.set_cons_succ,i64_w,i32_w]
        rfl
       refine pure_ (i:=7) (N:=some 4) (v:=?_) (a':=?_) #[true,true,true,true,true,true,true,true,false] rfl rfl (any_of HT_.out (by kernel_rfl)) (fun _ _ _ h => h) (Or.inl ⟨by rfl,?_⟩) ?_ ?_
       rotate_left
       ·intro w'
        go_simp
        with_reducible rfl
       rotate_left
       ·simp only [Act.put,List.setIfInBounds_toArray,List.set_cons_zero,List.set_cons_succ,i64_w,i32_w]
        rfl
       refine pure_ (i:=8) (N:=some 0) (v:=?_) (a':=?_) #[true,true,true,true,true,true,true,true,true] rfl rfl (any_of HT_.out (by kernel_rfl)) (fun _ _ _ h => h) (Or.inl ⟨by rfl,?_⟩) ?_ ?_
       rotate_left
       ·intro w'
        go_simp
        with_reducible rfl
       rotate_left
       ·simp only [Act.put,List.setIfInBounds_toArray,List.set_cons_zero,List.set_cons_succ,i64_w,i32_w]
        rfl
       refine done_ (done_of HT_.out (by kernel_rfl)) ?_
       try go_wp2_with (first | ((with_reducible refine gate_callee (f:=55) rfl ?_);refine goesL_ (some 18) rfl rfl Tryz.func55 (by kernel_rfl) rfl #[.string (x0_1.extract (t163:Int).toNat x0_1.size)] rfl (by (try simp only [List.map_toArray,List.map_cons,List.map_nil]);first | done | rfl | (simp only [List.length_drop,List.length_take];rfl)) ?_;(with_reducible refine (lex_skip.calls 4001 (x0_1.extract (t163:Int).toNat x0_1.size) t169 _ A21.out (GV.below hG (by repeat (first | (with_reducible first | exact HB.out | apply below_alloc | apply pw_below_drewN | apply below_drew1 | refine below_set ?_ GE165.out) | exact HB.out)))).mono ?_);rintro e w28 ⟨rfl,hb⟩;refine ⟨_,rfl,?_⟩;have n0_:=Aside0.mk (Kd.R_below (by (with_reducible repeat (first | apply Kd.R_alloc | apply Kd.R_drewN | apply Kd.R_drew));exact HO168.out) hb);have n1_:=Aside0.mk (blk_below (g:=gb165) (o:=.cells #[.int .i64 t160,.string t161,.int .i64 t162] 32 (0,0)) (by (with_reducible repeat (first | refine blk_drewN ?_ _ | refine blk_drew ?_ | refine blk_alloc ?_ _));exact BK165.out) hb);have n2_:=Aside0.mk (below_step (by repeat (first | (with_reducible first | exact HB.out | apply below_alloc | apply pw_below_drewN | apply below_drew1 | refine below_set ?_ GE165.out) | exact HB.out)) hb);clear HO168;clear BK165;clear HB;have HO168:=n0_;have BK165:=n1_;have HB:=n2_;clear n0_ n1_ n2_;(try clear hb);(try clear hb2);(try clear hk);(try clear hi)))
       go_roundg k1
       case measure => omega
       case rel => exact ⟨(t169),(y166),rfl,H',⟨by (with_reducible repeat (first | apply Kd.R_alloc | apply Kd.R_drewN | apply Kd.R_drew));exact Kd.R_mono HO168.out (fun _ hk => trivial)⟩,⟨by repeat (first | (with_reducible first | exact HB.out | apply below_alloc | apply pw_below_drewN | apply below_drew1 | refine below_set ?_ GE165.out) | exact HB.out)⟩⟩
end Go.Proofs.YtcgdncpioafbdaaGreatDoor.Q

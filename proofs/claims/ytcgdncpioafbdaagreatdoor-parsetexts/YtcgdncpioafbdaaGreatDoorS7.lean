/- Lemmas for the law: Qtxs. -/
import Derived.Test.YtcgdncpioafbdaaGreatDoorRows
import Derived.Test.YtcgdncpioafbdaaGreatDoorTie
import Derived.Test.YtcgdncpioafbdaaGreatDoorCards
import Derived.Test.YtcgdncpioafbdaaGreatDoorS1
import Derived.Test.YtcgdncpioafbdaaGreatDoorS2
import Derived.Test.YtcgdncpioafbdaaGreatDoorS3
import Derived.Test.YtcgdncpioafbdaaGreatDoorS4
import Derived.Test.YtcgdncpioafbdaaGreatDoorS5
import Derived.Test.YtcgdncpioafbdaaGreatDoorS6
set_option linter.unusedVariables false
set_option linter.unusedSimpArgs false
namespace Go.Proofs.YtcgdncpioafbdaaGreatDoor.Q
open Go Go.RowKit Go.Proofs.YtcgdncpioafbdaaGreatDoorW.PrintWords Go.Proofs.YtcgdncpioafbdaaGreatDoorW.PrintLast Go.Proofs.YtcgdncpioafbdaaGreatDoorW.PrintMore
attribute [local go_sem high] store60 cells60_len
set_option maxHeartbeats 4000000 in
set_option maxRecDepth 100000 in
theorem texts_none {w:World} {l:List S114} {A:Option Addr} {c:Nat} (hp:pileR l=none) (hc:l.length ≤ c) (hC:Kd.C k114 w A l.length l) (hG:GV w):Calls Tryz.prog 9 #[.slice A l.length c] w fun e w' => e = .returned (.bool true)∧Below w.heap.size w w':=by
 have HG:=Aside0.mk hG
 have HC:=Aside0.mk hC
 clear hG hC
 obtain ⟨x,hx⟩:∃ x,(pileR l).getD z43=x:=⟨_,rfl⟩
 have hk:(pileR l).isSome=false:=by rw [hp];rfl
 have PP:Aside0 (∀ v:World,Kd.C k114 v A l.length l → Calls Tryz.prog 23 #[.slice A l.length c] v fun e w' => ∃ (A1:Option Addr) (c1:Nat),e = .returned (.tuple #[.agg #[.string x.f0,.int .i64 x.f1.f0,.int .i64 x.f1.f1,.string x.f1.f2,.string x.f2,.slice A1 x.f3.length c1],.bool false])∧x.f3.length ≤ c1∧Kd.F k43 w' (fun q => v.heap.size ≤ q) A1 x.f3.length x.f3∧Below v.heap.size v w'):=⟨by
  intro v hv
  refine (pile_out hc hv (fun s _ => (name_is s.f2).1)).mono ?_
  rintro e w' ⟨hb,u,rfl,A1,c1,rfl,h1,h2⟩
  rw [hx] at h1 h2
  rw [hx,hk]
  exact ⟨A1,c1,rfl,h1,h2,hb⟩⟩
 clear hx hk hp
 go_enter Tryz.func9,Tryz.ntmps9
 go_wp2_with (first | (go_at_call 40;refine (awake_calls HG.out).mono ?_;rintro e v ⟨rfl,hb⟩;have HBv:=Aside0.mk hb;clear hb) | (go_at_call 23;refine (PP.out _ (Kd.C_below HC.out HBv.out)).mono ?_;rintro e v1 ⟨A1,c1,rfl,hl1,hF,hb⟩;have HF1:=Aside0.mk hF;have HW1:=Aside0.mk hb;clear hF hb))
 go_ret
 exact ⟨rfl,below_alloc (below_step HBv.out HW1.out) _⟩
set_option maxHeartbeats 8000000 in
set_option maxRecDepth 100000 in
theorem texts_some {w:World} {l:List S114} {A:Option Addr} {c:Nat} {x:S43} (hp:pileR l=some x) (hg:GE x) (hn:cnt x ≤ 40) (hc:l.length ≤ c) (hC:Kd.C k114 w A l.length l) (hG:GV w):Calls Tryz.prog 9 #[.slice A l.length c] w fun e w' => e = .returned (.bool true)∧Below w.heap.size w w':=by
 have HG:=Aside0.mk hG
 have HC:=Aside0.mk hC
 clear hG hC
 have hx:(pileR l).getD z43=x:=by rw [hp];rfl
 have hk:(pileR l).isSome=true:=by rw [hp];rfl
 have PP:Aside0 (∀ v:World,Kd.C k114 v A l.length l → Calls Tryz.prog 23 #[.slice A l.length c] v fun e w' => ∃ (A1:Option Addr) (c1:Nat),e = .returned (.tuple #[.agg #[.string x.f0,.int .i64 x.f1.f0,.int .i64 x.f1.f1,.string x.f1.f2,.string x.f2,.slice A1 x.f3.length c1],.bool true])∧x.f3.length ≤ c1∧Kd.F k43 w' (fun q => v.heap.size ≤ q) A1 x.f3.length x.f3∧Below v.heap.size v w'):=⟨by
  intro v hv
  refine (pile_out hc hv (fun s _ => (name_is s.f2).1)).mono ?_
  rintro e w' ⟨hb,u,rfl,A1,c1,rfl,h1,h2⟩
  rw [hx] at h1 h2
  rw [hx,hk]
  exact ⟨A1,c1,rfl,h1,h2,hb⟩⟩
 clear hx hk hp
 have hT:=hg.tg
 have hf:fu x < 4611686018427387904:=by have:=hg.fu;omega
 have hs:=hg.size
 have hz:(txt x).size ≤ 1000000000:=by omega
 have hs2:(txt x).size ≤ 8000:=by omega
 have HK:=Aside0.mk (show minusB x=false → (txt x).size ≤ 3000 → parseS (T4 (txt x))=if deepB x=true then (z60,28) else (xD x,0) from fun h1 h2 => texts_back hg hn h1 (by omega))
 obtain ⟨t,htx⟩:∃ t,txt x=t:=⟨_,rfl⟩
 have HTX:=Aside0.mk htx
 obtain ⟨d,hdx⟩:∃ d,(dep x:Int)=d:=⟨_,rfl⟩
 have HDX:=Aside0.mk hdx
 obtain ⟨mb,hmx⟩:∃ b,minusB x=b:=⟨_,rfl⟩
 have HMX:=Aside0.mk hmx
 have dB:decide (30 < d)=deepB x:=by rw [← hdx];unfold deepB;rw [decide_eq_decide];omega
 rw [htx,hmx] at HK
 have HZ:=Aside0.mk hs2
 have PT:Aside0 (∀ (v:World) (hv:GV v) (A:Option Addr) (c:Nat),x.f3.length ≤ c → Kd.C k43 v A x.f3.length x.f3 → Calls Tryz.prog 41 #[.agg #[.string x.f0,.int .i64 x.f1.f0,.int .i64 x.f1.f1,.string x.f1.f2,.string x.f2,.slice A x.f3.length c]] v fun e w' => e = .returned (.string t)∧Below v.heap.size v w'):=⟨fun v hv A c hc hC => by rw [← HTX.out];exact text_out hT hz hv hc hC⟩
 have PR:Aside0 (∀ (v:World) (A:Option Addr) (c:Nat),x.f3.length ≤ c → Kd.C k43 v A x.f3.length x.f3 → Calls Tryz.prog 42 #[.agg #[.string x.f0,.int .i64 x.f1.f0,.int .i64 x.f1.f1,.string x.f1.f2,.string x.f2,.slice A x.f3.length c]] v fun e w' => e = .returned (.string t)∧Below v.heap.size v w'):=⟨fun v A c hc hC => by rw [← HTX.out];exact rtext_out hT hz hc hC⟩
 have PD:Aside0 (∀ (v:World) (A:Option Addr) (c:Nat),x.f3.length ≤ c → Kd.C k43 v A x.f3.length x.f3 → Calls Tryz.prog 43 #[.agg #[.string x.f0,.int .i64 x.f1.f0,.int .i64 x.f1.f1,.string x.f1.f2,.string x.f2,.slice A x.f3.length c]] v fun e w' => e = .returned (.int .i64 d)∧Below v.heap.size v w'):=⟨fun v A c hc hC => by rw [← HDX.out];exact parse_Depth.calls _ _ _ _ _ _ A c x.f3 _ _ hC hc (Depth_is x hf (fu x) (Nat.le_refl _))⟩
 have PE:Aside0 (∀ (v:World) (A:Option Addr) (c:Nat),x.f3.length ≤ c → Kd.C k43 v A x.f3.length x.f3 → Calls Tryz.prog 44 #[.agg #[.string x.f0,.int .i64 x.f1.f0,.int .i64 x.f1.f1,.string x.f1.f2,.string x.f2,.slice A x.f3.length c]] v fun e w' => e = .returned (.int .i64 d)∧Below v.heap.size v w'):=⟨fun v A c hc hC => by rw [← HDX.out];exact vidimusref17_Depth.calls _ _ _ _ _ _ A c x.f3 _ _ hC hc (rDepth_is x hf (fu x) (Nat.le_refl _))⟩
 have PM:Aside0 (∀ (v:World) (A:Option Addr) (c:Nat),x.f3.length ≤ c → Kd.C k43 v A x.f3.length x.f3 → Calls Tryz.prog 45 #[.agg #[.string x.f0,.int .i64 x.f1.f0,.int .i64 x.f1.f1,.string x.f1.f2,.string x.f2,.slice A x.f3.length c]] v fun e w' => e = .returned (.bool mb)∧Below v.heap.size v w'):=⟨fun v A c hc hC => by rw [← HMX.out];exact vidimuslaw17_minus.calls _ _ _ _ _ _ A c x.f3 _ _ hC hc (minus_is x hf (fu x) (Nat.le_refl _))⟩
 have PS:Aside0 (∀ (v:World) (A A':Option Addr) (c c':Nat),x.f3.length ≤ c → x.f3.length ≤ c' → Kd.C k43 v A x.f3.length x.f3 → Kd.C k43 v A' x.f3.length x.f3 → Calls Tryz.prog 47 #[.agg #[.string x.f0,.int .i64 x.f1.f0,.int .i64 x.f1.f1,.string x.f1.f2,.string x.f2,.slice A x.f3.length c],.agg #[.string x.f0,.int .i64 x.f1.f0,.int .i64 x.f1.f1,.string x.f1.f2,.string x.f2,.slice A' x.f3.length c']] v fun e w' => e = .returned (.bool true)∧Below v.heap.size v w'):=⟨fun v A A' c c' hc hc' hC hC' => sameExpr_out (Nat.le_of_lt hf) hc hc' hC hC'⟩
 clear hT hf hs hz hs2 htx hdx hmx hg hn
 go_enter Tryz.func9,Tryz.ntmps9
 go_upto_region 4 with (first | (go_at_call 40;refine (awake_calls HG.out).mono ?_;rintro e v ⟨rfl,hb⟩;have HBv:=Aside0.mk hb;clear hb) | (go_at_call 23;refine (PP.out _ (Kd.C_below HC.out HBv.out)).mono ?_;rintro e v1 ⟨A1,c1,rfl,hl1,hF,hb⟩;have HF1:=Aside0.mk hF;have HW1:=Aside0.mk hb;clear hF hb))
 have HV1:=Aside0.mk (below_step HBv.out HW1.out)
 have HG1:=Aside0.mk ((HG.out.below HBv.out).below HW1.out)
 have B1:=Aside0.mk (new_blk (W:=v1) (.cells #[.string x.f0,.int .i64 x.f1.f0,.int .i64 x.f1.f1,.string x.f1.f2,.string x.f2,.slice A1 x.f3.length c1] 43 (0,0)) rfl)
 have HA1:=Aside0.mk (below_alloc HV1.out (.cells #[.string x.f0,.int .i64 x.f1.f0,.int .i64 x.f1.f1,.string x.f1.f2,.string x.f2,.slice A1 x.f3.length c1] 43 (0,0)))
 have HCW:=Aside0.mk (Kd.C_below (Kd.F_now HF1.out) (below_alloc (Below.refl v1.heap.size v1) (.cells #[.string x.f0,.int .i64 x.f1.f0,.int .i64 x.f1.f1,.string x.f1.f2,.string x.f2,.slice A1 x.f3.length c1] 43 (0,0))))
 have HGW:=Aside0.mk (HG1.out.below (below_alloc (Below.refl v1.heap.size v1) (.cells #[.string x.f0,.int .i64 x.f1.f0,.int .i64 x.f1.f1,.string x.f1.f2,.string x.f2,.slice A1 x.f3.length c1] 43 (0,0))))
 generalize hb1:v1.heap.size=b1 at B1 ⊢
 generalize hW:v1.alloc (.cells #[.string x.f0,.int .i64 x.f1.f0,.int .i64 x.f1.f1,.string x.f1.f2,.string x.f2,.slice A1 x.f3.length c1] 43 (0,0))=W at B1 HA1 HCW HGW ⊢
 clear hb1 hW HF1 HV1 HW1 HG1 PP
 have hlt:=blk_lt B1.out
 have HLT:=Aside0.mk hlt
 have x0:W.cell? ⟨b1,0,none⟩=some (.string x.f0):=(blk_cell B1.out 0).trans rfl
 have x1:W.cell? ⟨b1,1,none⟩=some (.int .i64 x.f1.f0):=(blk_cell B1.out 1).trans rfl
 have x2:W.cell? ⟨b1,2,none⟩=some (.int .i64 x.f1.f1):=(blk_cell B1.out 2).trans rfl
 have x3:W.cell? ⟨b1,3,none⟩=some (.string x.f1.f2):=(blk_cell B1.out 3).trans rfl
 have x4:W.cell? ⟨b1,4,none⟩=some (.string x.f2):=(blk_cell B1.out 4).trans rfl
 have x5:W.cell? ⟨b1,5,none⟩=some (.slice A1 x.f3.length c1):=(blk_cell B1.out 5).trans rfl
 go_upto_region 7 with (first | (go_at_call 41;refine (PT.out _ HGW.out A1 c1 hl1 HCW.out).mono ?_;rintro e w2 ⟨rfl,hb⟩;have HX2:=Aside0.mk hb;clear hb))
 have HB2:=Aside0.mk (below_step HA1.out HX2.out)
 have HC2:=Aside0.mk (Kd.C_below HCW.out HX2.out)
 have HG2:=Aside0.mk (HGW.out.below HX2.out)
 have HL2:=Aside0.mk (Nat.lt_of_lt_of_le HLT.out HX2.out.size)
 have x0_:=pw_cell_below HX2.out x0
 clear x0
 have x0:=x0_
 clear x0_
 have x1_:=pw_cell_below HX2.out x1
 clear x1
 have x1:=x1_
 clear x1_
 have x2_:=pw_cell_below HX2.out x2
 clear x2
 have x2:=x2_
 clear x2_
 have x3_:=pw_cell_below HX2.out x3
 clear x3
 have x3:=x3_
 clear x3_
 have x4_:=pw_cell_below HX2.out x4
 clear x4
 have x4:=x4_
 clear x4_
 have x5_:=pw_cell_below HX2.out x5
 clear x5
 have x5:=x5_
 clear x5_
 clear HX2 HCW HGW HA1 B1 hlt HLT
 refine start_ (n:=11) (S:=fun w' => w'.cell? ⟨b1,0,none⟩=some (.string x.f0)∧w'.cell? ⟨b1,1,none⟩=some (.int .i64 x.f1.f0)∧w'.cell? ⟨b1,2,none⟩=some (.int .i64 x.f1.f1)∧w'.cell? ⟨b1,3,none⟩=some (.string x.f1.f2)∧w'.cell? ⟨b1,4,none⟩=some (.string x.f2)∧w'.cell? ⟨b1,5,none⟩=some (.slice A1 x.f3.length c1)) (ds:=[]) #[false,false,false,false,false,false,false,false,false,false,false] (by kernel_rfl) rfl rfl ⟨x0,x1,x2,x3,x4,x5⟩ (fun hHeld => ?_)
 refine pure_ (i:=0) (N:=some 19) (v:=?_) (a':=?_) #[true,false,false,false,false,false,false,false,false,false,false] rfl rfl (by kernel_rfl) (fun _ _ _ h => h) (Or.inl ⟨by rfl,?_⟩) ?_ ?_
 rotate_left
 ·intro w'
  go_simp
  first | done | (with_reducible rfl)
 rotate_left
 ·simp only [Act.put,List.setIfInBounds_toArray,List.set_cons_zero,List.set_cons_succ,i64_w,i32_w]
  rfl
 refine take_ (i:=1) (N:=some 20) (v:=?_) (a':=?_) #[true,true,false,false,false,false,false,false,false,false,false] rfl rfl (by kernel_rfl) (fun _ _ _ h => h) (Or.inl ⟨by rfl,?_⟩) hHeld ?_ ?_
 rotate_left
 ·rintro w' ⟨s0,s1,s2,s3,s4,s5⟩
  go_simp
  with_reducible rfl
 rotate_left
 ·simp only [Act.put,List.setIfInBounds_toArray,List.set_cons_zero,List.set_cons_succ,i64_w,i32_w]
  rfl
 refine one_ (i:=2) (N:=some 21) #[true,true,true,false,false,false,false,false,false,false,false] rfl rfl (by kernel_rfl) (by decide) (fun K hK => ?_)
 refine goes_ Tryz.func42 (by kernel_rfl) rfl #[.agg #[.string x.f0,.int .i64 x.f1.f0,.int .i64 x.f1.f1,.string x.f1.f2,.string x.f2,.slice A1 x.f3.length c1]] (by rfl) rfl rfl (by (try simp only [List.map_toArray,List.map_cons,List.map_nil]);first | done | rfl) ?_
 refine (PR.out _ A1 c1 hl1 (Kd.C_below HC2.out (below_drew1 (Below.refl _ _)))).mono ?_
 rintro e w3 ⟨rfl,hb⟩
 have HXw3:=Aside0.mk hb
 clear hb
 refine ⟨_,rfl,?_⟩
 have x0_:=pw_cell_below HXw3.out x0
 clear x0
 have x0:=x0_
 clear x0_
 have x1_:=pw_cell_below HXw3.out x1
 clear x1
 have x1:=x1_
 clear x1_
 have x2_:=pw_cell_below HXw3.out x2
 clear x2
 have x2:=x2_
 clear x2_
 have x3_:=pw_cell_below HXw3.out x3
 clear x3
 have x3:=x3_
 clear x3_
 have x4_:=pw_cell_below HXw3.out x4
 clear x4
 have x4:=x4_
 clear x4_
 have x5_:=pw_cell_below HXw3.out x5
 clear x5
 have x5:=x5_
 clear x5_
 refine hK.out _ _ ⟨x0,x1,x2,x3,x4,x5⟩ (fun hHeld => ?_)
 clear hK K
 refine norm_ (a':=?_) ?_ ?_
 rotate_left
 ·show Act.put _ (some 21) _=_
  simp only [Act.put,List.setIfInBounds_toArray,List.set_cons_zero,List.set_cons_succ,i64_w,i32_w]
  rfl
 refine pure_ (i:=3) (N:=some 22) (v:=.bool false) (a':=?_) #[true,true,true,true,false,false,false,false,false,false,false] rfl rfl (by kernel_rfl) (fun _ _ _ h => h) (Or.inl ⟨by rfl,?_⟩) ?_ ?_
 ·intro w'
  go_simp
  first | done | (with_reducible rfl)
 rotate_left
 ·simp only [Act.put,List.setIfInBounds_toArray,List.set_cons_zero,List.set_cons_succ,i64_w,i32_w]
  rfl
 refine pure_ (i:=4) (N:=some 23) (v:=?_) (a':=?_) #[true,true,true,true,true,false,false,false,false,false,false] rfl rfl (by kernel_rfl) (fun _ _ _ h => h) (Or.inl ⟨by rfl,?_⟩) ?_ ?_
 rotate_left
 ·intro w'
  go_simp
  first | done | (with_reducible rfl)
 rotate_left
 ·simp only [Act.put,List.setIfInBounds_toArray,List.set_cons_zero,List.set_cons_succ,i64_w,i32_w]
  rfl
 refine take_ (i:=5) (N:=some 24) (v:=?_) (a':=?_) #[true,true,true,true,true,true,false,false,false,false,false] rfl rfl (by kernel_rfl) (fun _ _ _ h => h) (Or.inl ⟨by rfl,?_⟩) hHeld ?_ ?_
 rotate_left
 ·rintro w' ⟨s0,s1,s2,s3,s4,s5⟩
  go_simp
  with_reducible rfl
 rotate_left
 ·simp only [Act.put,List.setIfInBounds_toArray,List.set_cons_zero,List.set_cons_succ,i64_w,i32_w]
  rfl
 refine take_ (i:=7) (N:=some 26) (v:=?_) (a':=?_) #[true,true,true,true,true,true,false,true,false,false,false] rfl rfl (by kernel_rfl) (fun _ _ _ h => h) (Or.inl ⟨by rfl,?_⟩) hHeld ?_ ?_
 rotate_left
 ·rintro w' ⟨s0,s1,s2,s3,s4,s5⟩
  go_simp
  with_reducible rfl
 rotate_left
 ·simp only [Act.put,List.setIfInBounds_toArray,List.set_cons_zero,List.set_cons_succ,i64_w,i32_w]
  rfl
 have HB3:=Aside0.mk (below_step (below_drew1 HB2.out) HXw3.out)
 have HC3:=Aside0.mk (Kd.C_below (Kd.C_below HC2.out (below_drew1 (Below.refl _ _))) HXw3.out)
 refine one_ (i:=6) (N:=some 25) #[true,true,true,true,true,true,true,true,false,false,false] rfl rfl (by kernel_rfl) (by decide) (fun K hK => ?_)
 refine goes_ Tryz.func43 (by kernel_rfl) rfl #[.agg #[.string x.f0,.int .i64 x.f1.f0,.int .i64 x.f1.f1,.string x.f1.f2,.string x.f2,.slice A1 x.f3.length c1]] (by rfl) rfl rfl (by (try simp only [List.map_toArray,List.map_cons,List.map_nil]);first | done | rfl) ?_
 refine (PD.out _ A1 c1 hl1 HC3.out).mono ?_
 rintro e w4 ⟨rfl,hb⟩
 have HXw4:=Aside0.mk hb
 clear hb
 refine ⟨_,rfl,?_⟩
 have x0_:=pw_cell_below HXw4.out x0
 clear x0
 have x0:=x0_
 clear x0_
 have x1_:=pw_cell_below HXw4.out x1
 clear x1
 have x1:=x1_
 clear x1_
 have x2_:=pw_cell_below HXw4.out x2
 clear x2
 have x2:=x2_
 clear x2_
 have x3_:=pw_cell_below HXw4.out x3
 clear x3
 have x3:=x3_
 clear x3_
 have x4_:=pw_cell_below HXw4.out x4
 clear x4
 have x4:=x4_
 clear x4_
 have x5_:=pw_cell_below HXw4.out x5
 clear x5
 have x5:=x5_
 clear x5_
 refine hK.out _ _ ⟨x0,x1,x2,x3,x4,x5⟩ (fun hHeld => ?_)
 clear hK K
 refine norm_ (a':=?_) ?_ ?_
 rotate_left
 ·show Act.put _ (some 25) _=_
  simp only [Act.put,List.setIfInBounds_toArray,List.set_cons_zero,List.set_cons_succ,i64_w,i32_w]
  rfl
 have HB4:=Aside0.mk (below_step HB3.out HXw4.out)
 have HC4:=Aside0.mk (Kd.C_below HC3.out HXw4.out)
 refine one_ (i:=8) (N:=some 27) #[true,true,true,true,true,true,true,true,true,false,false] rfl rfl (by kernel_rfl) (by decide) (fun K hK => ?_)
 refine goes_ Tryz.func44 (by kernel_rfl) rfl #[.agg #[.string x.f0,.int .i64 x.f1.f0,.int .i64 x.f1.f1,.string x.f1.f2,.string x.f2,.slice A1 x.f3.length c1]] (by rfl) rfl rfl (by (try simp only [List.map_toArray,List.map_cons,List.map_nil]);first | done | rfl) ?_
 refine (PE.out _ A1 c1 hl1 HC4.out).mono ?_
 rintro e w5 ⟨rfl,hb⟩
 have HXw5:=Aside0.mk hb
 clear hb
 refine ⟨_,rfl,?_⟩
 have x0_:=pw_cell_below HXw5.out x0
 clear x0
 have x0:=x0_
 clear x0_
 have x1_:=pw_cell_below HXw5.out x1
 clear x1
 have x1:=x1_
 clear x1_
 have x2_:=pw_cell_below HXw5.out x2
 clear x2
 have x2:=x2_
 clear x2_
 have x3_:=pw_cell_below HXw5.out x3
 clear x3
 have x3:=x3_
 clear x3_
 have x4_:=pw_cell_below HXw5.out x4
 clear x4
 have x4:=x4_
 clear x4_
 have x5_:=pw_cell_below HXw5.out x5
 clear x5
 have x5:=x5_
 clear x5_
 refine hK.out _ _ ⟨x0,x1,x2,x3,x4,x5⟩ (fun hHeld => ?_)
 clear hK K
 refine norm_ (a':=?_) ?_ ?_
 rotate_left
 ·show Act.put _ (some 27) _=_
  simp only [Act.put,List.setIfInBounds_toArray,List.set_cons_zero,List.set_cons_succ,i64_w,i32_w]
  rfl
 have HB5:=Aside0.mk (below_step HB4.out HXw5.out)
 have HC5:=Aside0.mk (Kd.C_below HC4.out HXw5.out)
 refine pure_ (i:=9) (N:=some 28) (v:=.bool false) (a':=?_) #[true,true,true,true,true,true,true,true,true,true,false] rfl rfl (by kernel_rfl) (fun _ _ _ h => h) (Or.inl ⟨by rfl,?_⟩) ?_ ?_
 ·intro w'
  go_simp
  first | done | (with_reducible rfl)
 rotate_left
 ·simp only [Act.put,List.setIfInBounds_toArray,List.set_cons_zero,List.set_cons_succ,i64_w,i32_w]
  rfl
 refine pure_ (i:=10) (N:=some 29) (v:=.bool false) (a':=?_) #[true,true,true,true,true,true,true,true,true,true,true] rfl rfl (by kernel_rfl) (fun _ _ _ h => h) (Or.inl ⟨by rfl,?_⟩) ?_ ?_
 ·intro w'
  go_simp
  first | done | (with_reducible rfl)
 rotate_left
 ·simp only [Act.put,List.setIfInBounds_toArray,List.set_cons_zero,List.set_cons_succ,i64_w,i32_w]
  rfl
 refine done_ (by kernel_rfl) ?_
 clear hHeld
 have HG5:=Aside0.mk ((((HG2.out.below (below_drew1 (Below.refl _ _))).below HXw3.out).below HXw4.out).below HXw5.out)
 clear HG2 HC2 HC3 HC4 HB2 HB3 HB4 HXw3 HXw4 HXw5
 cases mb with
 | true =>
  go_wp2_with (first | (go_at_call 45;refine (PM.out _ A1 c1 hl1 HC5.out).mono ?_;rintro e w6 ⟨rfl,hb⟩;have HX6:=Aside0.mk hb;clear hb))
  go_ret
  exact ⟨rfl,below_step HB5.out HX6.out⟩
 | false =>
  by_cases hz:3000 < t.size
  ·have d0:decide (3000 < t.size)=true:=decide_eq_true hz
   have d1:decide (3000 < (t.size:Int))=true:=decide_eq_true (by omega)
   go_wp2_with (first | (go_at_call 45;refine (PM.out _ A1 c1 hl1 HC5.out).mono ?_;rintro e w6 ⟨rfl,hb⟩;have HX6:=Aside0.mk hb;clear hb))
   go_ret
   exact ⟨rfl,below_step HB5.out HX6.out⟩
  ·have d0:decide (3000 < t.size)=false:=decide_eq_false hz
   have d1:decide (3000 < (t.size:Int))=false:=decide_eq_false (by omega)
   have hz3:t.size ≤ 3000:=by omega
   go_upto_region 11 with (first | (go_at_call 45;refine (PM.out _ A1 c1 hl1 HC5.out).mono ?_;rintro e w6 ⟨rfl,hb⟩;have HX6:=Aside0.mk hb;clear hb))
   have HB6:=Aside0.mk (below_step HB5.out HX6.out)
   have HG6:=Aside0.mk (HG5.out.below HX6.out)
   have HC6:=Aside0.mk (Kd.C_below HC5.out HX6.out)
   have x0_:=pw_cell_below HX6.out x0
   clear x0
   have x0:=x0_
   clear x0_
   have x1_:=pw_cell_below HX6.out x1
   clear x1
   have x1:=x1_
   clear x1_
   have x2_:=pw_cell_below HX6.out x2
   clear x2
   have x2:=x2_
   clear x2_
   have x3_:=pw_cell_below HX6.out x3
   clear x3
   have x3:=x3_
   clear x3_
   have x4_:=pw_cell_below HX6.out x4
   clear x4
   have x4:=x4_
   clear x4_
   have x5_:=pw_cell_below HX6.out x5
   clear x5
   have x5:=x5_
   clear x5_
   clear HX6 HG5 HB5 HC5
   generalize hb0:b1=b0 at x0 x1 x2 x3 x4 x5 ⊢
   clear hb0
   generalize hc0:c1=c0 at x0 x1 x2 x3 x4 x5 hl1 ⊢
   clear hc0
   obtain ⟨q1,hq1⟩:∃ x,(parseS (T4 t)).1=x:=⟨_,rfl⟩
   obtain ⟨c1,hc1⟩:∃ c,(parseS (T4 t)).2=c:=⟨_,rfl⟩
   have HX1:=Aside0.mk hq1
   have E1:=Aside0.mk hc1
   have PC1:Aside0 (∀ v:World,GV v → Calls Tryz.prog 46 #[.string (T4 t)] v fun e w' => ∃ a:Ads,e = .returned (.tuple #[.agg (celA q1 a),.int .i64 c1])∧StA (fun q => v.heap.size ≤ q) w' q1 a∧Below v.heap.size v w'):=⟨by
    intro v hv
    refine (parse_calls (T4 t) hv).mono ?_
    rintro e w' ⟨u,rfl,⟨a,rfl,hF⟩,hb⟩
    exact ⟨a,by rw [HX1.out,E1.out],by rw [← HX1.out];exact hF,hb⟩⟩
   clear hq1 hc1
   go_upto_region 12 with (first | (go_at_call 46;refine (PC1.out _ HG6.out).mono ?_;rintro e v1 ⟨a1,rfl,hF,hb⟩;have HF1:=Aside0.mk hF;have HV1:=Aside0.mk (below_step HB6.out hb);have HW1:=Aside0.mk hb;clear hF hb))
   have HD1:=Aside0.mk (Held.new HF1.out HW1.out.size)
   have HA1:=Aside0.mk (below_alloc HV1.out (.cells (celA q1 a1) 60 (0,0)))
   have HU1:=Aside0.mk (below_alloc HW1.out (.cells (celA q1 a1) 60 (0,0)))
   have HC7:=Aside0.mk (Kd.C_below HC6.out HU1.out)
   have x0_:=Aside0.mk (pw_cell_below HU1.out x0)
   clear x0
   have x1_:=Aside0.mk (pw_cell_below HU1.out x1)
   clear x1
   have x2_:=Aside0.mk (pw_cell_below HU1.out x2)
   clear x2
   have x3_:=Aside0.mk (pw_cell_below HU1.out x3)
   clear x3
   have x4_:=Aside0.mk (pw_cell_below HU1.out x4)
   clear x4
   have x5_:=Aside0.mk (pw_cell_below HU1.out x5)
   clear x5
   have HG1:=Aside0.mk (HG6.out.below HU1.out)
   generalize hb1:v1.heap.size=b1 at HD1 ⊢
   generalize hW1:v1.alloc (.cells (celA q1 a1) 60 (0,0))=W1 at HD1 HA1 HG1 HC7 x0_ x1_ x2_ x3_ x4_ x5_ ⊢
   clear hb1 hW1 HF1 HV1 HW1 HU1 PC1
   have x0:=x0_.out
   clear x0_
   have x1:=x1_.out
   clear x1_
   have x2:=x2_.out
   clear x2_
   have x3:=x3_.out
   clear x3_
   have x4:=x4_.out
   clear x4_
   have x5:=x5_.out
   clear x5_
   have hk:=HK.out (by first | trivial | rfl) hz3
   have hq1:=HX1.out
   have hc1:=E1.out
   rw [hk] at hq1 hc1
   cases hd:deepB x with
   | true =>
    rw [hd] at hc1 dB
    have hc2:c1=28:=by rw [← hc1];rfl
    subst hc2
    go_wp2_with (first | (go_at_call 44;refine (PE.out _ A1 c0 hl1 HC7.out).mono ?_;rintro e w8 ⟨rfl,hb⟩;have HX8:=Aside0.mk hb;clear hb))
    go_ret
    exact ⟨rfl,below_step HA1.out HX8.out⟩
   | false =>
    rw [hd] at hc1 hq1 dB
    have hc2:c1=0:=by rw [← hc1];rfl
    subst hc2
    have hq2:q1.f7=[x]:=by rw [← hq1];rfl
    clear hq1 hc1 hk
    have ql:=blk_lt HD1.out.blk
    have r1c7:W1.cell? ⟨b1,7,none⟩=some (.slice a1.a7 q1.f7.length a1.c7):=(blk_cell HD1.out.blk 7).trans rfl
    have HC:=Aside0.mk (Kd.F_now HD1.out.fr.f7)
    obtain ⟨ad,A5,c5,e5,y0,y1,y2,y3,y4,y5,hl5,hi5⟩:=at_T43 HC.out 0 (by omega) (by rw [hq2];simp)
    have e6:rd_T43 q1.f7 0=x:=by rw [hq2];rfl
    rw [e6] at y0 y1 y2 y3 y4 y5 hl5 hi5
    simp only [Int.toNat_zero,Nat.zero_mul,addr0] at y0 y1 y2 y3 y4 y5
    rw [e5,hq2] at r1c7
    replace r1c7:W1.cell? ⟨b1,7,none⟩=some (.slice (some ad) 1 a1.c7):=r1c7
    have HC7e:=Aside0.mk hi5
    clear hi5 e5 e6 HC
    go_upto_region 14 with (first | (go_at_call 44;refine (PE.out _ A1 c0 hl1 HC7.out).mono ?_;rintro e w8 ⟨rfl,hb⟩;have HX8:=Aside0.mk hb;clear hb))
    have HB8:=Aside0.mk (below_step HA1.out HX8.out)
    have HC8:=Aside0.mk (Kd.C_below HC7.out HX8.out)
    have HC8e:=Aside0.mk (Kd.C_below HC7e.out HX8.out)
    have x0_:=pw_cell_below HX8.out x0
    clear x0
    have x0:=x0_
    clear x0_
    have x1_:=pw_cell_below HX8.out x1
    clear x1
    have x1:=x1_
    clear x1_
    have x2_:=pw_cell_below HX8.out x2
    clear x2
    have x2:=x2_
    clear x2_
    have x3_:=pw_cell_below HX8.out x3
    clear x3
    have x3:=x3_
    clear x3_
    have x4_:=pw_cell_below HX8.out x4
    clear x4
    have x4:=x4_
    clear x4_
    have x5_:=pw_cell_below HX8.out x5
    clear x5
    have x5:=x5_
    clear x5_
    have y0_:=pw_cell_below HX8.out y0
    clear y0
    have y0:=y0_
    clear y0_
    have y1_:=pw_cell_below HX8.out y1
    clear y1
    have y1:=y1_
    clear y1_
    have y2_:=pw_cell_below HX8.out y2
    clear y2
    have y2:=y2_
    clear y2_
    have y3_:=pw_cell_below HX8.out y3
    clear y3
    have y3:=y3_
    clear y3_
    have y4_:=pw_cell_below HX8.out y4
    clear y4
    have y4:=y4_
    clear y4_
    have y5_:=pw_cell_below HX8.out y5
    clear y5
    have y5:=y5_
    clear y5_
    have r1c7_:=pw_cell_below HX8.out r1c7
    clear r1c7
    have r1c7:=r1c7_
    clear r1c7_
    clear HX8
    refine start_ (n:=17) (S:=fun w' => w'.cell? ⟨b0,0,none⟩=some (.string x.f0)∧w'.cell? ⟨b0,1,none⟩=some (.int .i64 x.f1.f0)∧w'.cell? ⟨b0,2,none⟩=some (.int .i64 x.f1.f1)∧w'.cell? ⟨b0,3,none⟩=some (.string x.f1.f2)∧w'.cell? ⟨b0,4,none⟩=some (.string x.f2)∧w'.cell? ⟨b0,5,none⟩=some (.slice A1 x.f3.length c0)∧w'.cell? ad=some (.string x.f0)∧w'.cell? ⟨ad.block,ad.off + 1,none⟩=some (.int .i64 x.f1.f0)∧w'.cell? ⟨ad.block,ad.off + 2,none⟩=some (.int .i64 x.f1.f1)∧w'.cell? ⟨ad.block,ad.off + 3,none⟩=some (.string x.f1.f2)∧w'.cell? ⟨ad.block,ad.off + 4,none⟩=some (.string x.f2)∧w'.cell? ⟨ad.block,ad.off + 5,none⟩=some (.slice A5 x.f3.length c5)∧w'.cell? ⟨b1,7,none⟩=some (.slice (some ad) 1 a1.c7)) (ds:=[]) #[false,false,false,false,false,false,false,false,false,false,false,false,false,false,false,false,false] (by kernel_rfl) rfl rfl ⟨x0,x1,x2,x3,x4,x5,y0,y1,y2,y3,y4,y5,r1c7⟩ (fun hHeld => ?_)
    refine pure_ (i:=0) (N:=some 48) (v:=?_) (a':=?_) #[true,false,false,false,false,false,false,false,false,false,false,false,false,false,false,false,false] rfl rfl (by kernel_rfl) (fun _ _ _ h => h) (Or.inl ⟨by rfl,?_⟩) ?_ ?_
    rotate_left
    ·intro w'
     go_simp
     first | done | (with_reducible rfl)
    rotate_left
    ·simp only [Act.put,List.setIfInBounds_toArray,List.set_cons_zero,List.set_cons_succ,i64_w,i32_w]
     rfl
    refine pure_ (i:=1) (N:=some 49) (v:=.bool true) (a':=?_) #[true,true,false,false,false,false,false,false,false,false,false,false,false,false,false,false,false] rfl rfl (by kernel_rfl) (fun _ _ _ h => h) (Or.inl ⟨by rfl,?_⟩) ?_ ?_
    ·intro w'
     go_simp
     first | done | (with_reducible rfl)
    rotate_left
    ·simp only [Act.put,List.setIfInBounds_toArray,List.set_cons_zero,List.set_cons_succ,i64_w,i32_w]
     rfl
    refine pure_ (i:=2) (N:=some 50) (v:=?_) (a':=?_) #[true,true,true,false,false,false,false,false,false,false,false,false,false,false,false,false,false] rfl rfl (by kernel_rfl) (fun _ _ _ h => h) (Or.inl ⟨by rfl,?_⟩) ?_ ?_
    rotate_left
    ·intro w'
     go_simp
     first | done | (with_reducible rfl)
    rotate_left
    ·simp only [Act.put,List.setIfInBounds_toArray,List.set_cons_zero,List.set_cons_succ,i64_w,i32_w]
     rfl
    refine pure_ (i:=3) (N:=some 51) (v:=?_) (a':=?_) #[true,true,true,true,false,false,false,false,false,false,false,false,false,false,false,false,false] rfl rfl (by kernel_rfl) (fun _ _ _ h => h) (Or.inl ⟨by rfl,?_⟩) ?_ ?_
    rotate_left
    ·intro w'
     go_simp
     first | done | (with_reducible rfl)
    rotate_left
    ·simp only [Act.put,List.setIfInBounds_toArray,List.set_cons_zero,List.set_cons_succ,i64_w,i32_w]
     rfl
    refine take_ (i:=4) (N:=some 52) (v:=?_) (a':=?_) #[true,true,true,true,true,false,false,false,false,false,false,false,false,false,false,false,false] rfl rfl (by kernel_rfl) (fun _ _ _ h => h) (Or.inl ⟨by rfl,?_⟩) hHeld ?_ ?_
    rotate_left
    ·rintro w' ⟨s0,s1,s2,s3,s4,s5,s6,s7,s8,s9,s10,s11,s12⟩
     go_simp
     with_reducible rfl
    rotate_left
    ·simp only [Act.put,List.setIfInBounds_toArray,List.set_cons_zero,List.set_cons_succ,i64_w,i32_w]
     rfl
    refine pure_ (i:=5) (N:=some 53) (v:=?_) (a':=?_) #[true,true,true,true,true,true,false,false,false,false,false,false,false,false,false,false,false] rfl rfl (by kernel_rfl) (fun _ _ _ h => h) (Or.inl ⟨by rfl,?_⟩) ?_ ?_
    rotate_left
    ·intro w'
     go_simp
     first | done | (with_reducible rfl)
    rotate_left
    ·simp only [Act.put,List.setIfInBounds_toArray,List.set_cons_zero,List.set_cons_succ,i64_w,i32_w]
     rfl
    refine pure_ (i:=6) (N:=some 54) (v:=.bool true) (a':=?_) #[true,true,true,true,true,true,true,false,false,false,false,false,false,false,false,false,false] rfl rfl (by kernel_rfl) (fun _ _ _ h => h) (Or.inl ⟨by rfl,?_⟩) ?_ ?_
    ·intro w'
     go_simp
     first | done | (with_reducible rfl)
    rotate_left
    ·simp only [Act.put,List.setIfInBounds_toArray,List.set_cons_zero,List.set_cons_succ,i64_w,i32_w]
     rfl
    refine pure_ (i:=7) (N:=some 55) (v:=?_) (a':=?_) #[true,true,true,true,true,true,true,true,false,false,false,false,false,false,false,false,false] rfl rfl (by kernel_rfl) (fun _ _ _ h => h) (Or.inl ⟨by rfl,?_⟩) ?_ ?_
    rotate_left
    ·intro w'
     go_simp
     first | done | (with_reducible rfl)
    rotate_left
    ·simp only [Act.put,List.setIfInBounds_toArray,List.set_cons_zero,List.set_cons_succ,i64_w,i32_w]
     rfl
    refine pure_ (i:=8) (N:=some 56) (v:=?_) (a':=?_) #[true,true,true,true,true,true,true,true,true,false,false,false,false,false,false,false,false] rfl rfl (by kernel_rfl) (fun _ _ _ h => h) (Or.inl ⟨by rfl,?_⟩) ?_ ?_
    rotate_left
    ·intro w'
     go_simp
     first | done | (with_reducible rfl)
    rotate_left
    ·simp only [Act.put,List.setIfInBounds_toArray,List.set_cons_zero,List.set_cons_succ,i64_w,i32_w]
     rfl
    refine pure_ (i:=9) (N:=some 57) (v:=?_) (a':=?_) #[true,true,true,true,true,true,true,true,true,true,false,false,false,false,false,false,false] rfl rfl (by kernel_rfl) (fun _ _ _ h => h) (Or.inl ⟨by rfl,?_⟩) ?_ ?_
    rotate_left
    ·intro w'
     go_simp
     first | done | (with_reducible rfl)
    rotate_left
    ·simp only [Act.put,List.setIfInBounds_toArray,List.set_cons_zero,List.set_cons_succ,i64_w,i32_w]
     rfl
    refine take_ (i:=10) (N:=some 58) (v:=?_) (a':=?_) #[true,true,true,true,true,true,true,true,true,true,true,false,false,false,false,false,false] rfl rfl (by kernel_rfl) (fun _ _ _ h => h) (Or.inl ⟨by rfl,?_⟩) hHeld ?_ ?_
    rotate_left
    ·rintro w' ⟨s0,s1,s2,s3,s4,s5,s6,s7,s8,s9,s10,s11,s12⟩
     go_simp
     with_reducible rfl
    rotate_left
    ·simp only [Act.put,List.setIfInBounds_toArray,List.set_cons_zero,List.set_cons_succ,i64_w,i32_w]
     rfl
    refine pure_ (i:=11) (N:=some 59) (v:=?_) (a':=?_) #[true,true,true,true,true,true,true,true,true,true,true,true,false,false,false,false,false] rfl rfl (by kernel_rfl) (fun _ _ _ h => h) (Or.inl ⟨by rfl,?_⟩) ?_ ?_
    rotate_left
    ·intro w'
     go_simp
     first | done | (with_reducible rfl)
    rotate_left
    ·simp only [Act.put,List.setIfInBounds_toArray,List.set_cons_zero,List.set_cons_succ,i64_w,i32_w]
     rfl
    refine take_ (i:=12) (N:=some 60) (v:=?_) (a':=?_) #[true,true,true,true,true,true,true,true,true,true,true,true,true,false,false,false,false] rfl rfl (by kernel_rfl) (fun _ _ _ h => h) (Or.inl ⟨by rfl,?_⟩) hHeld ?_ ?_
    rotate_left
    ·rintro w' ⟨s0,s1,s2,s3,s4,s5,s6,s7,s8,s9,s10,s11,s12⟩
     go_simp
     with_reducible rfl
    rotate_left
    ·simp only [Act.put,List.setIfInBounds_toArray,List.set_cons_zero,List.set_cons_succ,i64_w,i32_w]
     rfl
    refine take_ (i:=13) (N:=some 61) (v:=?_) (a':=?_) #[true,true,true,true,true,true,true,true,true,true,true,true,true,true,false,false,false] rfl rfl (by kernel_rfl) (fun _ _ _ h => h) (Or.inl ⟨by rfl,?_⟩) hHeld ?_ ?_
    rotate_left
    ·rintro w' ⟨s0,s1,s2,s3,s4,s5,s6,s7,s8,s9,s10,s11,s12⟩
     go_simp
     with_reducible rfl
    rotate_left
    ·simp only [Act.put,List.setIfInBounds_toArray,List.set_cons_zero,List.set_cons_succ,i64_w,i32_w]
     rfl
    refine one_ (i:=14) (N:=some 62) #[true,true,true,true,true,true,true,true,true,true,true,true,true,true,true,false,false] rfl rfl (by kernel_rfl) (by decide) (fun K hK => ?_)
    refine goes_ Tryz.func47 (by kernel_rfl) rfl #[.agg #[.string x.f0,.int .i64 x.f1.f0,.int .i64 x.f1.f1,.string x.f1.f2,.string x.f2,.slice A5 x.f3.length c5],.agg #[.string x.f0,.int .i64 x.f1.f0,.int .i64 x.f1.f1,.string x.f1.f2,.string x.f2,.slice A1 x.f3.length c0]] (by rfl) rfl rfl (by (try simp only [List.map_toArray,List.map_cons,List.map_nil]);first | done | rfl) ?_
    refine (PS.out _ A5 A1 c5 c0 hl5 hl1 (Kd.C_below HC8e.out (below_drew1 (Below.refl _ _))) (Kd.C_below HC8.out (below_drew1 (Below.refl _ _)))).mono ?_
    rintro e w9 ⟨rfl,hb⟩
    have HXw9:=Aside0.mk hb
    clear hb
    refine ⟨_,rfl,?_⟩
    have x0_:=pw_cell_below HXw9.out x0
    clear x0
    have x0:=x0_
    clear x0_
    have x1_:=pw_cell_below HXw9.out x1
    clear x1
    have x1:=x1_
    clear x1_
    have x2_:=pw_cell_below HXw9.out x2
    clear x2
    have x2:=x2_
    clear x2_
    have x3_:=pw_cell_below HXw9.out x3
    clear x3
    have x3:=x3_
    clear x3_
    have x4_:=pw_cell_below HXw9.out x4
    clear x4
    have x4:=x4_
    clear x4_
    have x5_:=pw_cell_below HXw9.out x5
    clear x5
    have x5:=x5_
    clear x5_
    have y0_:=pw_cell_below HXw9.out y0
    clear y0
    have y0:=y0_
    clear y0_
    have y1_:=pw_cell_below HXw9.out y1
    clear y1
    have y1:=y1_
    clear y1_
    have y2_:=pw_cell_below HXw9.out y2
    clear y2
    have y2:=y2_
    clear y2_
    have y3_:=pw_cell_below HXw9.out y3
    clear y3
    have y3:=y3_
    clear y3_
    have y4_:=pw_cell_below HXw9.out y4
    clear y4
    have y4:=y4_
    clear y4_
    have y5_:=pw_cell_below HXw9.out y5
    clear y5
    have y5:=y5_
    clear y5_
    have r1c7_:=pw_cell_below HXw9.out r1c7
    clear r1c7
    have r1c7:=r1c7_
    clear r1c7_
    refine hK.out _ _ ⟨x0,x1,x2,x3,x4,x5,y0,y1,y2,y3,y4,y5,r1c7⟩ (fun hHeld => ?_)
    clear hK K
    refine norm_ (a':=?_) ?_ ?_
    rotate_left
    ·show Act.put _ (some 62) _=_
     simp only [Act.put,List.setIfInBounds_toArray,List.set_cons_zero,List.set_cons_succ,i64_w,i32_w]
     rfl
    refine pure_ (i:=15) (N:=some 63) (v:=?_) (a':=?_) #[true,true,true,true,true,true,true,true,true,true,true,true,true,true,true,true,false] rfl rfl (by kernel_rfl) (fun _ _ _ h => h) (Or.inl ⟨by rfl,?_⟩) ?_ ?_
    rotate_left
    ·intro w'
     go_simp
     first | done | (with_reducible rfl)
    rotate_left
    ·simp only [Act.put,List.setIfInBounds_toArray,List.set_cons_zero,List.set_cons_succ,i64_w,i32_w]
     rfl
    refine pure_ (i:=16) (N:=some 2) (v:=?_) (a':=?_) #[true,true,true,true,true,true,true,true,true,true,true,true,true,true,true,true,true] rfl rfl (by kernel_rfl) (fun _ _ _ h => h) (Or.inl ⟨by rfl,?_⟩) ?_ ?_
    rotate_left
    ·intro w'
     go_simp
     first | done | (with_reducible rfl)
    rotate_left
    ·simp only [Act.put,List.setIfInBounds_toArray,List.set_cons_zero,List.set_cons_succ,i64_w,i32_w]
     rfl
    refine done_ (by kernel_rfl) ?_
    clear hHeld
    go_wp2
    go_ret
    exact ⟨rfl,below_step (below_drew1 HB8.out) HXw9.out⟩
theorem texts_calls {w:World} {l:List S114} {A:Option Addr} {c:Nat} (hc:l.length ≤ c) (hC:Kd.C k114 w A l.length l) (hok:∀ s ∈ l,StepOk s) (hG:GV w):Calls Tryz.prog 9 #[.slice A l.length c] w fun e w' => e = .returned (.bool true)∧Below w.heap.size w w':=by
 cases hp:pileR l with
 | none => exact texts_none hp hc hC hG
 | some x =>
  obtain ⟨h1,h2⟩:=pileR_good hok hp
  exact texts_some hp h1 h2 hc hC hG
end Go.Proofs.YtcgdncpioafbdaaGreatDoor.Q

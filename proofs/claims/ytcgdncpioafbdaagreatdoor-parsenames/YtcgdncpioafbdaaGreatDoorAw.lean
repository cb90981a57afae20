/- The laws of layer 17 are awake: a statement that a call of Parse has left in a block; awake answers true. -/
import Derived.Test.YtcgdncpioafbdaaGreatDoorTxC
namespace Go.Proofs.YtcgdncpioafbdaaGreatDoor.Q
open Go Go.RowKit Go.Proofs.YtcgdncpioafbdaaGreatDoorW.PrintWords Go.Proofs.YtcgdncpioafbdaaGreatDoorW.PrintLast Go.Proofs.YtcgdncpioafbdaaGreatDoorW.PrintMore
def awS : ByteArray := ⟨#[115, 101, 108, 101, 99, 116, 32, 97, 32, 102, 114, 111, 109, 32, 116, 32, 119, 104, 101, 114, 101, 32, 97, 32, 43, 32, 49, 32, 42, 32, 50, 32, 61, 32, 51, 32, 108, 105, 109, 105, 116, 32, 52, 59]⟩
def awT : ByteArray := ⟨#[115, 101, 108, 101, 99, 116]⟩
theorem aw0 : (parseS awS).2 = 0 := by decide +kernel
theorem aw1 : (parseS awT).2 = 20 := by decide +kernel
theorem aw2 : (parseS awS).1.f0 = 4 := by decide +kernel
theorem aw3 : (parseS awS).1.f1.data.toList = [116] := by decide +kernel
theorem aw4 : (parseS awS).1.f10 = 4 := by decide +kernel
theorem aw5 : (parseS awS).1.f7.length = 1 := by decide +kernel
theorem aw7 : TG (rd_T43 (parseS awS).1.f7 0) := by
  exact TG_of _ (by decide +kernel)
theorem tl_data (s : ByteArray) : s.toList = s.data.toList := Lib.toList_data s
theorem aw6 : ((parseS awS).1.f7.map fun e => (txt e).data.toList) = [[40, 40, 97, 41, 43, 40, 40, 49, 41, 42, 40, 50, 41, 41, 41, 61, 40, 51, 41]] := by decide +kernel
/-- A statement in a block of its own. -/
structure Held (B : Nat) (w : World) (b : Nat) (x : S60) (a : Ads) : Prop where
  blk : w.heap[b]? = some (.cells (celA x a) 60 (0, 0))
  low : B ≤ b
  fr : StA (fun q => B ≤ q) w x a
theorem Held.below {B : Nat} {w w' : World} {b : Nat} {x : S60} {a : Ads} (h : Held B w b x a) (hb : Below w.heap.size w w') : Held B w' b x a :=
  ⟨(hb.block b (blk_lt h.blk)).trans h.blk, h.low, h.fr.below hb⟩
theorem Held.lt {B : Nat} {w : World} {b : Nat} {x : S60} {a : Ads} (h : Held B w b x a) : b < w.heap.size := blk_lt h.blk
theorem Held.new {B : Nat} {w : World} {x : S60} {a : Ads} (h : StA (fun q => B ≤ q) w x a) (hB : B ≤ w.heap.size) : Held B (w.alloc (.cells (celA x a) 60 (0, 0))) w.heap.size x a :=
  ⟨new_blk _ rfl, hB, h.below (below_alloc (Below.refl _ _) _)⟩
set_option maxHeartbeats 1000000 in
set_option maxRecDepth 100000 in
theorem store60 (w1 : World) (x : S60) (a : Ads) : Sem.run Tryz.prog (storeCells ⟨w1.heap.size, 0, none⟩ (cells60 x a.a2 a.c2 a.a4 a.c4 a.a5 a.c5 a.a6 a.c6 a.a7 a.c7)) (w1.alloc (.cells #[.int .i64 0, .string ⟨#[]⟩, .slice none 0 0, .string ⟨#[]⟩, .slice none 0 0, .slice none 0 0, .slice none 0 0, .slice none 0 0, .string ⟨#[]⟩, .bool false, .int .i64 0] 60 (0, 0))) = .ok () (w1.alloc (.cells (celA x a) 60 (0, 0))) := by
  unfold cells60 celA
  go_simp
  rfl
theorem cells60_len (x : S60) (A2 : Option Addr) (c2 : Nat) (A4 : Option Addr) (c4 : Nat) (A5 : Option Addr) (c5 : Nat) (A6 : Option Addr) (c6 : Nat) (A7 : Option Addr) (c7 : Nat) : (cells60 x A2 c2 A4 c4 A5 c5 A6 c6 A7 c7).length = 11 := rfl
attribute [local go_sem high] store60 cells60_len
set_option maxHeartbeats 1000000 in
set_option maxRecDepth 100000 in
theorem awake_calls {w : World} (hG : GV w) : Calls Tryz.prog 40 #[] w fun e w' => e = .returned (.bool true) ∧ Below w.heap.size w w' := by
  have HG := Aside0.mk hG
  clear hG
  have HB := Aside0.mk (Below.refl w.heap.size w)
  go_enter Tryz.func40, Tryz.ntmps40
  obtain ⟨x1, hx1⟩ : ∃ x, (parseS awS).1 = x := ⟨_, rfl⟩
  obtain ⟨c1, hc1⟩ : ∃ c, (parseS awS).2 = c := ⟨_, rfl⟩
  have HX1 := Aside0.mk hx1
  have E1 := Aside0.mk hc1
  have PC1 : Aside0 (∀ v : World, GV v → Calls Tryz.prog 46 #[.string (awS)] v fun e w' => ∃ a : Ads, e = .returned (.tuple #[.agg (celA x1 a), .int .i64 c1]) ∧ StA (fun q => v.heap.size ≤ q) w' x1 a ∧ Below v.heap.size v w') := ⟨by
    intro v hv
    refine (parse_calls (awS) hv).mono ?_
    rintro e w' ⟨u, rfl, ⟨a, rfl, hF⟩, hb⟩
    exact ⟨a, by rw [HX1.out, E1.out], by rw [← HX1.out]; exact hF, hb⟩⟩
  clear hx1 hc1
  go_upto_region 2 with (first | (go_at_call 46; refine (PC1.out _ HG.out).mono ?_; rintro e v1 ⟨a1, rfl, hF, hb⟩; have HF1 := Aside0.mk hF; have HV1 := Aside0.mk (below_step HB.out hb); have HW1 := Aside0.mk hb; clear hF hb))
  have HD1 := Aside0.mk (Held.new HF1.out HW1.out.size)
  have HA1 := Aside0.mk (below_alloc HV1.out (.cells (celA x1 a1) 60 (0, 0)))
  have HU1 := Aside0.mk (below_alloc HW1.out (.cells (celA x1 a1) 60 (0, 0)))
  have HG1 := Aside0.mk (HG.out.below HU1.out)
  generalize hb1 : v1.heap.size = b1 at HD1 ⊢
  generalize hW1 : v1.alloc (.cells (celA x1 a1) 60 (0, 0)) = W1 at HD1 HA1 HG1  ⊢
  clear hb1 hW1 HF1 HV1 HW1 HU1 PC1
  obtain ⟨x2, hx2⟩ : ∃ x, (parseS awT).1 = x := ⟨_, rfl⟩
  obtain ⟨c2, hc2⟩ : ∃ c, (parseS awT).2 = c := ⟨_, rfl⟩
  have HX2 := Aside0.mk hx2
  have E2 := Aside0.mk hc2
  have PC2 : Aside0 (∀ v : World, GV v → Calls Tryz.prog 46 #[.string (awT)] v fun e w' => ∃ a : Ads, e = .returned (.tuple #[.agg (celA x2 a), .int .i64 c2]) ∧ StA (fun q => v.heap.size ≤ q) w' x2 a ∧ Below v.heap.size v w') := ⟨by
    intro v hv
    refine (parse_calls (awT) hv).mono ?_
    rintro e w' ⟨u, rfl, ⟨a, rfl, hF⟩, hb⟩
    exact ⟨a, by rw [HX2.out, E2.out], by rw [← HX2.out]; exact hF, hb⟩⟩
  clear hx2 hc2
  go_upto_region 3 with (first | (go_at_call 46; refine (PC2.out _ HG1.out).mono ?_; rintro e v2 ⟨a2, rfl, hF, hb⟩; have HF2 := Aside0.mk hF; have HV2 := Aside0.mk (below_step HA1.out hb); have HW2 := Aside0.mk hb; clear hF hb))
  have HD2 := Aside0.mk (Held.new HF2.out HW2.out.size)
  have HA2 := Aside0.mk (below_alloc HV2.out (.cells (celA x2 a2) 60 (0, 0)))
  have HU2 := Aside0.mk (below_alloc HW2.out (.cells (celA x2 a2) 60 (0, 0)))
  have HD1_ := Aside0.mk (HD1.out.below HU2.out)
  clear HD1
  have HD1 := HD1_
  clear HD1_
  have HG2 := Aside0.mk (HG1.out.below HU2.out)
  generalize hb2 : v2.heap.size = b2 at HD2 ⊢
  generalize hW2 : v2.alloc (.cells (celA x2 a2) 60 (0, 0)) = W2 at HD2 HA2 HG2 HD1 ⊢
  clear hb2 hW2 HF2 HV2 HW2 HU2 PC2
  have r1c0 : W2.cell? ⟨b1, 0, none⟩ = some (.int .i64 x1.f0) := (blk_cell HD1.out.blk 0).trans rfl
  have r1c1 : W2.cell? ⟨b1, 1, none⟩ = some (.string x1.f1) := (blk_cell HD1.out.blk 1).trans rfl
  have r1c7 : W2.cell? ⟨b1, 7, none⟩ = some (.slice a1.a7 x1.f7.length a1.c7) := (blk_cell HD1.out.blk 7).trans rfl
  have r1c10 : W2.cell? ⟨b1, 10, none⟩ = some (.int .i64 x1.f10) := (blk_cell HD1.out.blk 10).trans rfl
  have r1lt := HD1.out.lt
  have y0 : c1 = 0 := by rw [← E1.out]; exact aw0
  have y1 : c2 = 20 := by rw [← E2.out]; exact aw1
  have y2 : (x1.f0 == 4) = true := by rw [← HX1.out, aw2]; decide
  have y3 : (x1.f1.toList == [116]) = true := by rw [← HX1.out, tl_data, aw3]; decide
  have y4 : (x1.f10 == 4) = true := by rw [← HX1.out, aw4]; decide
  have l7 : x1.f7.length = 1 := by rw [← HX1.out]; exact aw5
  have HC := Aside0.mk (Kd.F_now HD1.out.fr.f7)
  have p1 : (0 : Int) < (x1.f7.length : Int) := by omega
  obtain ⟨ad, A5, c5, e5, q0, q1, q2, q3, q4, q5, hl5, hi5⟩ := at_T43 HC.out 0 (by omega) p1
  have y5 : ((x1.f7.length : Int) == 1) = true := by rw [l7]; decide
  have htx : (txt (rd_T43 x1.f7 0)).data.toList = [40, 40, 97, 41, 43, 40, 40, 49, 41, 42, 40, 50, 41, 41, 41, 61, 40, 51, 41] := by
    have h := aw6
    rw [HX1.out] at h
    cases hf : x1.f7 with
    | nil => rw [hf] at l7; cases l7
    | cons z r => rw [hf] at h; simp only [List.map_cons, List.cons.injEq] at h; exact h.1
  have y6 : ((txt (rd_T43 x1.f7 0)).toList == [40, 40, 97, 41, 43, 40, 40, 49, 41, 42, 40, 50, 41, 41, 41, 61, 40, 51, 41]) = true := by rw [tl_data, htx]; decide
  have HS := Aside0.mk (show (txt (rd_T43 x1.f7 0)).size ≤ 1000000000 by rw [← len_data, htx]; decide)
  have HT := Aside0.mk (show TG (rd_T43 x1.f7 0) by rw [← HX1.out]; exact aw7)
  generalize rd_T43 x1.f7 0 = z at q0 q1 q2 q3 q4 q5 hl5 hi5 y6 HS HT
  have HL := Aside0.mk hl5
  have HI := Aside0.mk hi5
  subst y0 y1
  have p2 : (0 < x1.f7.length) = True := eq_true (by omega)
  replace p1 := eq_true p1
  simp only [Int.toNat_zero, Nat.zero_mul, addr0] at q0 q1 q2 q3 q4 q5
  clear hl5 hi5 htx l7
  rw [e5] at r1c7
  go_wp2_with (first | (go_at_call 41; refine (text_out (x := z) (A := A5) (c := c5) HT.out HS.out HG2.out HL.out HI.out).mono ?_; rintro e w3 ⟨rfl, hb⟩; have HB3 := Aside0.mk hb; clear hb))
  go_ret
  exact ⟨rfl, below_step HA2.out HB3.out⟩
end Go.Proofs.YtcgdncpioafbdaaGreatDoor.Q

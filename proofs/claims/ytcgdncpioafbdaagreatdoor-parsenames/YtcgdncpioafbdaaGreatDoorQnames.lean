/- ParseNames walked: true. -/
import Derived.Test.YtcgdncpioafbdaaGreatDoorNm
namespace Go.Proofs.YtcgdncpioafbdaaGreatDoor.Q
open Go Go.RowKit Go.Proofs.YtcgdncpioafbdaaGreatDoorW.PrintWords Go.Proofs.YtcgdncpioafbdaaGreatDoorW.PrintLast Go.Proofs.YtcgdncpioafbdaaGreatDoorW.PrintMore
attribute [local go_sem high] store60 cells60_len
theorem SmallW.of {s : ByteArray} (h1 : 1 ≤ s.size) (h2 : s.size ≤ 30) (h : ∀ i (hi : i < s.size), 97 ≤ bt s (i : Int) ∧ bt s (i : Int) ≤ 122) : SmallW s := by
  refine ⟨fun c hc => ?_, h1, h2⟩
  obtain ⟨i, hi, rfl⟩ := List.getElem_of_mem hc
  rw [len_data] at hi
  have := h i hi
  rw [bt_get s i hi] at this
  have e : s.data.toList[i] = s[i]'hi := rfl
  rw [e]
  exact ⟨UInt8.le_iff_toNat_le.2 (by have := this.1; simp; omega), UInt8.le_iff_toNat_le.2 (by have := this.2; simp; omega)⟩
set_option maxHeartbeats 4000000 in
set_option maxRecDepth 100000 in
theorem names_calls {w : World} (s : ByteArray) (hG : GV w) : Calls Tryz.prog 11 #[.string s] w fun e w' => e = .returned (.bool true) ∧ Below w.heap.size w w' := by
  have HG := Aside0.mk hG
  clear hG
  by_cases h1 : s.size < 1
  · go_enter Tryz.func11, Tryz.ntmps11
    go_wp2_with (first | (go_at_call 40; refine (awake_calls HG.out).mono ?_; rintro e v ⟨rfl, hb⟩; have HBv := Aside0.mk hb; clear hb))
    go_ret
    exact ⟨rfl, HBv.out⟩
  · by_cases h2 : 30 < s.size
    · go_enter Tryz.func11, Tryz.ntmps11
      go_wp2_with (first | (go_at_call 40; refine (awake_calls HG.out).mono ?_; rintro e v ⟨rfl, hb⟩; have HBv := Aside0.mk hb; clear hb))
      go_ret
      exact ⟨rfl, HBv.out⟩
    · have h3 : s.size ≤ 30 := by omega
      have h4 : 1 ≤ s.size := by omega
      clear h1 h2
      go_enter Tryz.func11, Tryz.ntmps11
      go_upto_region 5 with (first | (go_at_call 40; refine (awake_calls HG.out).mono ?_; rintro e v ⟨rfl, hb⟩; have HBv := Aside0.mk hb; clear hb))
      have HGv := Aside0.mk (HG.out.below HBv.out)
      clear HG
      have HG := HGv
      have HB := HBv
      clear HGv HBv
      go_upto_region 6 with (fail)
      go_loopg [3, 25] s.size (fun kq v3 v25 w' => ∃ j : Nat, v25 = .int .i64 (j : Int) ∧ Aside0 (j + kq = s.size) ∧ Aside0 (∀ i, i < j → 97 ≤ bt s (i : Int) ∧ bt s (i : Int) ≤ 122) ∧ Aside0 (w' = v))
      case atStart => exact ⟨0, rfl, ⟨by omega⟩, ⟨fun i h => absurd h (by omega)⟩, ⟨rfl⟩⟩
      case round =>
        obtain ⟨j, rfl, HJ, HI, HW⟩ := hrel
        obtain rfl := HW.out
        clear HW
        cases gk with
        | zero =>
          have HS := Aside0.mk (SmallW.of h4 h3 (fun i hi => HI.out i (by have := HJ.out; omega)))
          have d0 : decide ((j : Int) < (s.size : Int)) = false := decide_eq_false (by have := HJ.out; omega)
          have d1 : decide (j < s.size) = false := decide_eq_false (by have := HJ.out; omega)
          have HR := Aside0.mk (Reserved_is s 40 (by omega))
          cases hr : Ps.reserved s with
          | false =>
            rw [hr] at HR
            have HF := Aside0.mk hr
            clear hr
            go_upto_region 12 with (first | (go_at_call 50; refine (vidimusref17_Reserved.calls 40 s _ _ (HR.out)).mono ?_; rintro e v0 ⟨rfl, hb⟩; have HB0 := Aside0.mk (below_step HB.out hb); have HG0 := Aside0.mk (HG.out.below hb); clear hb))
            obtain ⟨x1, hx1⟩ : ∃ x, (parseS (T1 s)).1 = x := ⟨_, rfl⟩
            obtain ⟨c1, hc1⟩ : ∃ c, (parseS (T1 s)).2 = c := ⟨_, rfl⟩
            have HX1 := Aside0.mk hx1
            have E1 := Aside0.mk hc1
            have PC1 : Aside0 (∀ v : World, GV v → Calls Tryz.prog 46 #[.string (T1 s)] v fun e w' => ∃ a : Ads, e = .returned (.tuple #[.agg (celA x1 a), .int .i64 c1]) ∧ StA (fun q => v.heap.size ≤ q) w' x1 a ∧ Below v.heap.size v w') := ⟨by
              intro v hv
              refine (parse_calls (T1 s) hv).mono ?_
              rintro e w' ⟨u, rfl, ⟨a, rfl, hF⟩, hb⟩
              exact ⟨a, by rw [HX1.out, E1.out], by rw [← HX1.out]; exact hF, hb⟩⟩
            clear hx1 hc1
            go_upto_region 13 with (first | (go_at_call 46; refine (PC1.out _ HG0.out).mono ?_; rintro e v1 ⟨a1, rfl, hF, hb⟩; have HF1 := Aside0.mk hF; have HV1 := Aside0.mk (below_step HB0.out hb); have HW1 := Aside0.mk hb; clear hF hb))
            have HD1 := Aside0.mk (Held.new HF1.out HW1.out.size)
            have HA1 := Aside0.mk (below_alloc HV1.out (.cells (celA x1 a1) 60 (0, 0)))
            have HU1 := Aside0.mk (below_alloc HW1.out (.cells (celA x1 a1) 60 (0, 0)))
            have HG1 := Aside0.mk (HG0.out.below HU1.out)
            generalize hb1 : v1.heap.size = b1 at HD1 ⊢
            generalize hW1 : v1.alloc (.cells (celA x1 a1) 60 (0, 0)) = W1 at HD1 HA1 HG1  ⊢
            clear hb1 hW1 HF1 HV1 HW1 HU1 PC1
            obtain ⟨x2, hx2⟩ : ∃ x, (parseS (T2 s)).1 = x := ⟨_, rfl⟩
            obtain ⟨c2, hc2⟩ : ∃ c, (parseS (T2 s)).2 = c := ⟨_, rfl⟩
            have HX2 := Aside0.mk hx2
            have E2 := Aside0.mk hc2
            have PC2 : Aside0 (∀ v : World, GV v → Calls Tryz.prog 46 #[.string (T2 s)] v fun e w' => ∃ a : Ads, e = .returned (.tuple #[.agg (celA x2 a), .int .i64 c2]) ∧ StA (fun q => v.heap.size ≤ q) w' x2 a ∧ Below v.heap.size v w') := ⟨by
              intro v hv
              refine (parse_calls (T2 s) hv).mono ?_
              rintro e w' ⟨u, rfl, ⟨a, rfl, hF⟩, hb⟩
              exact ⟨a, by rw [HX2.out, E2.out], by rw [← HX2.out]; exact hF, hb⟩⟩
            clear hx2 hc2
            go_upto_region 14 with (first | (go_at_call 46; refine (PC2.out _ HG1.out).mono ?_; rintro e v2 ⟨a2, rfl, hF, hb⟩; have HF2 := Aside0.mk hF; have HV2 := Aside0.mk (below_step HA1.out hb); have HW2 := Aside0.mk hb; clear hF hb))
            have HD2 := Aside0.mk (Held.new HF2.out HW2.out.size)
            have HA2 := Aside0.mk (below_alloc HV2.out (.cells (celA x2 a2) 60 (0, 0)))
            have HU2 := Aside0.mk (below_alloc HW2.out (.cells (celA x2 a2) 60 (0, 0)))
            have HG2 := Aside0.mk (HG1.out.below HU2.out)
            generalize hb2 : v2.heap.size = b2 at HD2 ⊢
            generalize hW2 : v2.alloc (.cells (celA x2 a2) 60 (0, 0)) = W2 at HD2 HA2 HG2  ⊢
            clear hb2 hW2 HF2 HV2 HW2 HU2 PC2
            obtain ⟨x3, hx3⟩ : ∃ x, (parseS (T3 s)).1 = x := ⟨_, rfl⟩
            obtain ⟨c3, hc3⟩ : ∃ c, (parseS (T3 s)).2 = c := ⟨_, rfl⟩
            have HX3 := Aside0.mk hx3
            have E3 := Aside0.mk hc3
            have PC3 : Aside0 (∀ v : World, GV v → Calls Tryz.prog 46 #[.string (T3 s)] v fun e w' => ∃ a : Ads, e = .returned (.tuple #[.agg (celA x3 a), .int .i64 c3]) ∧ StA (fun q => v.heap.size ≤ q) w' x3 a ∧ Below v.heap.size v w') := ⟨by
              intro v hv
              refine (parse_calls (T3 s) hv).mono ?_
              rintro e w' ⟨u, rfl, ⟨a, rfl, hF⟩, hb⟩
              exact ⟨a, by rw [HX3.out, E3.out], by rw [← HX3.out]; exact hF, hb⟩⟩
            clear hx3 hc3
            go_upto_region 15 with (first | (go_at_call 46; refine (PC3.out _ HG2.out).mono ?_; rintro e v3 ⟨a3, rfl, hF, hb⟩; have HF3 := Aside0.mk hF; have HV3 := Aside0.mk (below_step HA2.out hb); have HW3 := Aside0.mk hb; clear hF hb))
            have HD3 := Aside0.mk (Held.new HF3.out HW3.out.size)
            have HA3 := Aside0.mk (below_alloc HV3.out (.cells (celA x3 a3) 60 (0, 0)))
            have HU3 := Aside0.mk (below_alloc HW3.out (.cells (celA x3 a3) 60 (0, 0)))
            have HG3 := Aside0.mk (HG2.out.below HU3.out)
            generalize hb3 : v3.heap.size = b3 at HD3 ⊢
            generalize hW3 : v3.alloc (.cells (celA x3 a3) 60 (0, 0)) = W3 at HD3 HA3 HG3  ⊢
            clear hb3 hW3 HF3 HV3 HW3 HU3 PC3
            obtain ⟨x4, hx4⟩ : ∃ x, (parseS (T4 s)).1 = x := ⟨_, rfl⟩
            obtain ⟨c4, hc4⟩ : ∃ c, (parseS (T4 s)).2 = c := ⟨_, rfl⟩
            have HX4 := Aside0.mk hx4
            have E4 := Aside0.mk hc4
            have PC4 : Aside0 (∀ v : World, GV v → Calls Tryz.prog 46 #[.string (T4 s)] v fun e w' => ∃ a : Ads, e = .returned (.tuple #[.agg (celA x4 a), .int .i64 c4]) ∧ StA (fun q => v.heap.size ≤ q) w' x4 a ∧ Below v.heap.size v w') := ⟨by
              intro v hv
              refine (parse_calls (T4 s) hv).mono ?_
              rintro e w' ⟨u, rfl, ⟨a, rfl, hF⟩, hb⟩
              exact ⟨a, by rw [HX4.out, E4.out], by rw [← HX4.out]; exact hF, hb⟩⟩
            clear hx4 hc4
            go_upto_region 16 with (first | (go_at_call 46; refine (PC4.out _ HG3.out).mono ?_; rintro e v4 ⟨a4, rfl, hF, hb⟩; have HF4 := Aside0.mk hF; have HV4 := Aside0.mk (below_step HA3.out hb); have HW4 := Aside0.mk hb; clear hF hb))
            have HD4 := Aside0.mk (Held.new HF4.out HW4.out.size)
            have HA4 := Aside0.mk (below_alloc HV4.out (.cells (celA x4 a4) 60 (0, 0)))
            have HU4 := Aside0.mk (below_alloc HW4.out (.cells (celA x4 a4) 60 (0, 0)))
            have HG4 := Aside0.mk (HG3.out.below HU4.out)
            generalize hb4 : v4.heap.size = b4 at HD4 ⊢
            generalize hW4 : v4.alloc (.cells (celA x4 a4) 60 (0, 0)) = W4 at HD4 HA4 HG4  ⊢
            clear hb4 hW4 HF4 HV4 HW4 HU4 PC4
            obtain ⟨g1, g2, g3, g4⟩ := names_free HS.out HF.out
            have y1 : c1 = 0 := by rw [← E1.out]; exact g1
            have y2 : c2 = 0 := by rw [← E2.out]; exact g2
            have y3 : c3 = 0 := by rw [← E3.out]; exact g3
            have y4 : c4 = 0 := by rw [← E4.out, g4]
            have y5 : x4.f7 = [⟨Ps.sCol, Ps.v0, s, []⟩] := by rw [← HX4.out, g4]
            clear g1 g2 g3 g4
            subst y1 y2 y3 y4
            have HC := Aside0.mk (Kd.F_now HD4.out.fr.f7)
            have r4c7 : W4.cell? ⟨b4, 7, none⟩ = some (.slice a4.a7 x4.f7.length a4.c7) := (blk_cell HD4.out.blk 7).trans rfl
            have r4lt := HD4.out.lt
            obtain ⟨ad, A5, c5, e5, q0, q1, q2, q3, q4, q5, hl5, hi5⟩ := at_T43 HC.out 0 (by omega) (by rw [y5]; simp)
            have e6 : (rd_T43 x4.f7 0).f2 = s := by rw [y5]; rfl
            rw [e6] at q4
            have p1 : ((0 : Int) < (x4.f7.length : Int)) = True := eq_true (by rw [y5]; simp)
            have p2 : (0 < x4.f7.length) = True := eq_true (by rw [y5]; simp)
            simp only [Int.toNat_zero, Nat.zero_mul, addr0] at q0 q1 q2 q3 q4 q5
            rw [e5] at r4c7
            clear hl5 hi5 e6 y5
            go_wp2
            go_ret
            exact ⟨rfl, HA4.out⟩

          | true =>
            rw [hr] at HR
            have HF := Aside0.mk hr
            clear hr
            go_upto_region 12 with (first | (go_at_call 50; refine (vidimusref17_Reserved.calls 40 s _ _ (HR.out)).mono ?_; rintro e v0 ⟨rfl, hb⟩; have HB0 := Aside0.mk (below_step HB.out hb); have HG0 := Aside0.mk (HG.out.below hb); clear hb))
            obtain ⟨x1, hx1⟩ : ∃ x, (parseS (T1 s)).1 = x := ⟨_, rfl⟩
            obtain ⟨c1, hc1⟩ : ∃ c, (parseS (T1 s)).2 = c := ⟨_, rfl⟩
            have HX1 := Aside0.mk hx1
            have E1 := Aside0.mk hc1
            have PC1 : Aside0 (∀ v : World, GV v → Calls Tryz.prog 46 #[.string (T1 s)] v fun e w' => ∃ a : Ads, e = .returned (.tuple #[.agg (celA x1 a), .int .i64 c1]) ∧ StA (fun q => v.heap.size ≤ q) w' x1 a ∧ Below v.heap.size v w') := ⟨by
              intro v hv
              refine (parse_calls (T1 s) hv).mono ?_
              rintro e w' ⟨u, rfl, ⟨a, rfl, hF⟩, hb⟩
              exact ⟨a, by rw [HX1.out, E1.out], by rw [← HX1.out]; exact hF, hb⟩⟩
            clear hx1 hc1
            go_upto_region 13 with (first | (go_at_call 46; refine (PC1.out _ HG0.out).mono ?_; rintro e v1 ⟨a1, rfl, hF, hb⟩; have HF1 := Aside0.mk hF; have HV1 := Aside0.mk (below_step HB0.out hb); have HW1 := Aside0.mk hb; clear hF hb))
            have HD1 := Aside0.mk (Held.new HF1.out HW1.out.size)
            have HA1 := Aside0.mk (below_alloc HV1.out (.cells (celA x1 a1) 60 (0, 0)))
            have HU1 := Aside0.mk (below_alloc HW1.out (.cells (celA x1 a1) 60 (0, 0)))
            have HG1 := Aside0.mk (HG0.out.below HU1.out)
            generalize hb1 : v1.heap.size = b1 at HD1 ⊢
            generalize hW1 : v1.alloc (.cells (celA x1 a1) 60 (0, 0)) = W1 at HD1 HA1 HG1  ⊢
            clear hb1 hW1 HF1 HV1 HW1 HU1 PC1
            obtain ⟨x2, hx2⟩ : ∃ x, (parseS (T2 s)).1 = x := ⟨_, rfl⟩
            obtain ⟨c2, hc2⟩ : ∃ c, (parseS (T2 s)).2 = c := ⟨_, rfl⟩
            have HX2 := Aside0.mk hx2
            have E2 := Aside0.mk hc2
            have PC2 : Aside0 (∀ v : World, GV v → Calls Tryz.prog 46 #[.string (T2 s)] v fun e w' => ∃ a : Ads, e = .returned (.tuple #[.agg (celA x2 a), .int .i64 c2]) ∧ StA (fun q => v.heap.size ≤ q) w' x2 a ∧ Below v.heap.size v w') := ⟨by
              intro v hv
              refine (parse_calls (T2 s) hv).mono ?_
              rintro e w' ⟨u, rfl, ⟨a, rfl, hF⟩, hb⟩
              exact ⟨a, by rw [HX2.out, E2.out], by rw [← HX2.out]; exact hF, hb⟩⟩
            clear hx2 hc2
            go_upto_region 14 with (first | (go_at_call 46; refine (PC2.out _ HG1.out).mono ?_; rintro e v2 ⟨a2, rfl, hF, hb⟩; have HF2 := Aside0.mk hF; have HV2 := Aside0.mk (below_step HA1.out hb); have HW2 := Aside0.mk hb; clear hF hb))
            have HD2 := Aside0.mk (Held.new HF2.out HW2.out.size)
            have HA2 := Aside0.mk (below_alloc HV2.out (.cells (celA x2 a2) 60 (0, 0)))
            have HU2 := Aside0.mk (below_alloc HW2.out (.cells (celA x2 a2) 60 (0, 0)))
            have HG2 := Aside0.mk (HG1.out.below HU2.out)
            generalize hb2 : v2.heap.size = b2 at HD2 ⊢
            generalize hW2 : v2.alloc (.cells (celA x2 a2) 60 (0, 0)) = W2 at HD2 HA2 HG2  ⊢
            clear hb2 hW2 HF2 HV2 HW2 HU2 PC2
            obtain ⟨x3, hx3⟩ : ∃ x, (parseS (T3 s)).1 = x := ⟨_, rfl⟩
            obtain ⟨c3, hc3⟩ : ∃ c, (parseS (T3 s)).2 = c := ⟨_, rfl⟩
            have HX3 := Aside0.mk hx3
            have E3 := Aside0.mk hc3
            have PC3 : Aside0 (∀ v : World, GV v → Calls Tryz.prog 46 #[.string (T3 s)] v fun e w' => ∃ a : Ads, e = .returned (.tuple #[.agg (celA x3 a), .int .i64 c3]) ∧ StA (fun q => v.heap.size ≤ q) w' x3 a ∧ Below v.heap.size v w') := ⟨by
              intro v hv
              refine (parse_calls (T3 s) hv).mono ?_
              rintro e w' ⟨u, rfl, ⟨a, rfl, hF⟩, hb⟩
              exact ⟨a, by rw [HX3.out, E3.out], by rw [← HX3.out]; exact hF, hb⟩⟩
            clear hx3 hc3
            go_upto_region 15 with (first | (go_at_call 46; refine (PC3.out _ HG2.out).mono ?_; rintro e v3 ⟨a3, rfl, hF, hb⟩; have HF3 := Aside0.mk hF; have HV3 := Aside0.mk (below_step HA2.out hb); have HW3 := Aside0.mk hb; clear hF hb))
            have HD3 := Aside0.mk (Held.new HF3.out HW3.out.size)
            have HA3 := Aside0.mk (below_alloc HV3.out (.cells (celA x3 a3) 60 (0, 0)))
            have HU3 := Aside0.mk (below_alloc HW3.out (.cells (celA x3 a3) 60 (0, 0)))
            have HG3 := Aside0.mk (HG2.out.below HU3.out)
            generalize hb3 : v3.heap.size = b3 at HD3 ⊢
            generalize hW3 : v3.alloc (.cells (celA x3 a3) 60 (0, 0)) = W3 at HD3 HA3 HG3  ⊢
            clear hb3 hW3 HF3 HV3 HW3 HU3 PC3
            obtain ⟨x4, hx4⟩ : ∃ x, (parseS (T4 s)).1 = x := ⟨_, rfl⟩
            obtain ⟨c4, hc4⟩ : ∃ c, (parseS (T4 s)).2 = c := ⟨_, rfl⟩
            have HX4 := Aside0.mk hx4
            have E4 := Aside0.mk hc4
            have PC4 : Aside0 (∀ v : World, GV v → Calls Tryz.prog 46 #[.string (T4 s)] v fun e w' => ∃ a : Ads, e = .returned (.tuple #[.agg (celA x4 a), .int .i64 c4]) ∧ StA (fun q => v.heap.size ≤ q) w' x4 a ∧ Below v.heap.size v w') := ⟨by
              intro v hv
              refine (parse_calls (T4 s) hv).mono ?_
              rintro e w' ⟨u, rfl, ⟨a, rfl, hF⟩, hb⟩
              exact ⟨a, by rw [HX4.out, E4.out], by rw [← HX4.out]; exact hF, hb⟩⟩
            clear hx4 hc4
            go_upto_region 16 with (first | (go_at_call 46; refine (PC4.out _ HG3.out).mono ?_; rintro e v4 ⟨a4, rfl, hF, hb⟩; have HF4 := Aside0.mk hF; have HV4 := Aside0.mk (below_step HA3.out hb); have HW4 := Aside0.mk hb; clear hF hb))
            have HD4 := Aside0.mk (Held.new HF4.out HW4.out.size)
            have HA4 := Aside0.mk (below_alloc HV4.out (.cells (celA x4 a4) 60 (0, 0)))
            have HU4 := Aside0.mk (below_alloc HW4.out (.cells (celA x4 a4) 60 (0, 0)))
            have HG4 := Aside0.mk (HG3.out.below HU4.out)
            generalize hb4 : v4.heap.size = b4 at HD4 ⊢
            generalize hW4 : v4.alloc (.cells (celA x4 a4) 60 (0, 0)) = W4 at HD4 HA4 HG4  ⊢
            clear hb4 hW4 HF4 HV4 HW4 HU4 PC4
            obtain ⟨g1, g2, g3, g4⟩ := names_res HF.out
            have y1 : (c1 == 0) = false := by rw [← E1.out]; exact beq_eq_false_iff_ne.mpr g1
            have y2 : (c2 == 0) = false := by rw [← E2.out]; exact beq_eq_false_iff_ne.mpr g2
            have y3 : (c3 == 0) = false := by rw [← E3.out]; exact beq_eq_false_iff_ne.mpr g3
            by_cases hz : s.toList = [110, 117, 108, 108]
            · have z1 : (s.toList == [110, 117, 108, 108]) = true := beq_iff_eq.mpr hz
              have y4 : (c4 == 0) = true := by rw [← E4.out]; exact beq_iff_eq.mpr (g4.2 hz)
              clear hz g1 g2 g3 g4
              go_wp2
              go_ret
              exact ⟨rfl, HA4.out⟩
            · have z1 : (s.toList == [110, 117, 108, 108]) = false := beq_eq_false_iff_ne.mpr hz
              have y4 : (c4 == 0) = false := by rw [← E4.out]; exact beq_eq_false_iff_ne.mpr (fun h => hz (g4.1 h))
              clear hz g1 g2 g3 g4
              go_wp2
              go_ret
              exact ⟨rfl, HA4.out⟩

        | succ k1 =>
          have hjl : j < s.size := by have := HJ.out; omega
          have d0 : decide ((j : Int) < (s.size : Int)) = true := decide_eq_true (by omega)
          have d1 : decide (j < s.size) = true := decide_eq_true (by omega)
          have p1 : (0 ≤ (j : Int)) = True := eq_true (by omega)
          have q1 : ((j : Int) < (s.size : Int)) = True := eq_true (by omega)
          have p2 : ((j : Int) < 0) = False := eq_false (by omega)
          have HJ1 := Aside0.mk (show j + 1 + k1 = s.size by have := HJ.out; omega)
          have hw1 : wrap64 ((j : Int) + 1) = ((j + 1 : Nat) : Int) := by unfold wrap64; omega
          have hbt := bt_get s j hjl
          by_cases ha : ((s[j]'hjl).toNat : Int) < 97
          · have b0 : decide (((s[j]'hjl).toNat : Int) < 97) = true := decide_eq_true ha
            clear ha hbt
            go_wp2
            go_ret
            exact ⟨rfl, HB.out⟩
          · have b0 : decide (((s[j]'hjl).toNat : Int) < 97) = false := decide_eq_false ha
            by_cases hb : 122 < ((s[j]'hjl).toNat : Int)
            · have b1 : decide (122 < ((s[j]'hjl).toNat : Int)) = true := decide_eq_true hb
              clear ha hb hbt
              go_wp2
              go_ret
              exact ⟨rfl, HB.out⟩
            · have b1 : decide (122 < ((s[j]'hjl).toNat : Int)) = false := decide_eq_false hb
              have HN := Aside0.mk (show ∀ i, i < j + 1 → 97 ≤ bt s (i : Int) ∧ bt s (i : Int) ≤ 122 from fun i hi => by
                by_cases e : i = j
                · subst e; rw [hbt]; omega
                · exact HI.out i (by omega))
              clear ha hb hbt
              go_wp2
              go_roundg k1
              case measure => first | exact Nat.lt_succ_self _ | omega
              case rel => exact ⟨j + 1, by first | rfl | rw [hw1] | (rw [Int.natCast_add]; rfl), HJ1, HN, ⟨rfl⟩⟩
end Go.Proofs.YtcgdncpioafbdaaGreatDoor.Q

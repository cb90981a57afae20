/- The parser: is a statement too long. -/
import Derived.Test.YtcgdncpioafbdaaGreatDoorPr
namespace Go.Proofs.YtcgdncpioafbdaaGreatDoor.Q
open Go Go.RowKit Go.Proofs.YtcgdncpioafbdaaGreatDoorW.PrintWords

/-- All expressions of a statement that are read for their depth. -/
def allE (x : S60) : List S43 := x.f5 ++ x.f7 ++ x.f4.flatten ++ x.f6.map (·.f1)
def longB (x : S60) : Bool := x.f4.any (fun r => decide (20 < r.length)) || decide (16 < x.f2.length) || decide (50 < x.f4.length) || decide (20 < x.f5.length) || decide (20 < x.f6.length) || (allE x).any deepB
/-- A statement of moderate size. -/
structure Mod (x : S60) : Prop where
  n2 : x.f2.length ≤ 100000
  n4 : x.f4.length ≤ 100000
  n5 : x.f5.length ≤ 100000
  n6 : x.f6.length ≤ 100000
  n7 : x.f7.length ≤ 100000
  fu : ∀ e ∈ allE x, fu e < 4611686018427387904

theorem row_at {w : World} {ok : Nat → Prop} {A : Option Addr} {ls : List (List S43)} (h : Kd.F (Kd.slice 43 k43) w ok A ls.length ls) (j : Nat) (hj : j < ls.length) : ∃ ad A0 c0, A = some ad ∧ w.cell? (ad.add j) = some (.slice A0 ls[j].length c0) ∧ ls[j].length ≤ c0 ∧ Kd.F k43 w ok A0 ls[j].length ls[j] := by
  obtain ⟨ad, c, e, _, hK, hc0, _⟩ := Kd.F_get h ([] : List S43) (j : Int) (by omega) (by omega)
  have hrd : ls.getD (j : Int).toNat ([] : List S43) = ls[j] := by rw [Int.toNat_natCast, List.getD_eq_getElem?_getD, List.getElem?_eq_getElem hj]; rfl
  rw [hrd] at hK
  have hc : ∀ i u, c[i]? = some u → w.cell? (ad.add (j * 1 + i)) = some u := hc0
  obtain ⟨A0, c0, rfl, l0, g0⟩ := Kd.FK_slice_open hK
  exact ⟨ad, A0, c0, e, by have hq := hc 0 _ rfl; rwa [Nat.mul_one, Nat.add_zero] at hq, l0, g0⟩
theorem set_at {w : World} {ok : Nat → Prop} {A : Option Addr} {xs : List S90} (h : Kd.F k90 w ok A xs.length xs) (j : Nat) (hj : j < xs.length) : ∃ ad A0 c0, A = some ad ∧ w.cell? (ad.add (j * 7)) = some (.string xs[j].f0) ∧ w.cell? ⟨(ad.add (j * 7)).block, (ad.add (j * 7)).off + 1, none⟩ = some (.string xs[j].f1.f0) ∧ w.cell? ⟨(ad.add (j * 7)).block, (ad.add (j * 7)).off + 2, none⟩ = some (.int .i64 xs[j].f1.f1.f0) ∧ w.cell? ⟨(ad.add (j * 7)).block, (ad.add (j * 7)).off + 3, none⟩ = some (.int .i64 xs[j].f1.f1.f1) ∧ w.cell? ⟨(ad.add (j * 7)).block, (ad.add (j * 7)).off + 4, none⟩ = some (.string xs[j].f1.f1.f2) ∧ w.cell? ⟨(ad.add (j * 7)).block, (ad.add (j * 7)).off + 5, none⟩ = some (.string xs[j].f1.f2) ∧ w.cell? ⟨(ad.add (j * 7)).block, (ad.add (j * 7)).off + 6, none⟩ = some (.slice A0 xs[j].f1.f3.length c0) ∧ xs[j].f1.f3.length ≤ c0 ∧ Kd.F k43 w ok A0 xs[j].f1.f3.length xs[j].f1.f3 := by
  obtain ⟨ad, c, e, _, hK, hc0, _⟩ := Kd.F_get h z90 (j : Int) (by omega) (by omega)
  have hrd : xs.getD (j : Int).toNat z90 = xs[j] := by rw [Int.toNat_natCast, List.getD_eq_getElem?_getD, List.getElem?_eq_getElem hj]; rfl
  rw [hrd] at hK
  have hc : ∀ i u, c[i]? = some u → w.cell? (ad.add (j * 7 + i)) = some u := hc0
  obtain ⟨A0, c0, rfl, l0, g0⟩ := k90_openF hK
  exact ⟨ad, A0, c0, e, hc 0 _ rfl, by rw [← add_field _ _ 1 (by omega)]; exact hc 1 _ rfl, by rw [← add_field _ _ 2 (by omega)]; exact hc 2 _ rfl, by rw [← add_field _ _ 3 (by omega)]; exact hc 3 _ rfl, by rw [← add_field _ _ 4 (by omega)]; exact hc 4 _ rfl, by rw [← add_field _ _ 5 (by omega)]; exact hc 5 _ rfl, by rw [← add_field _ _ 6 (by omega)]; exact hc 6 _ rfl, l0, g0⟩

set_option maxHeartbeats 4000000 in
set_option maxRecDepth 100000 in
theorem long_out {w0 : World} {x : S60} {a : Ads} (hF : StA (fun _ => True) w0 x a) (hm : Mod x) : Calls Tryz.prog 106 #[.agg (celA x a)] w0 fun e w' => e = .returned (.bool (longB x)) ∧ Below w0.heap.size w0 w' := by
  obtain ⟨A2, C2, A4, C4, A5, C5, A6, C6, A7, C7⟩ := a
  have HF0 := Aside0.mk hF
  have HM := Aside0.mk hm
  clear hF hm
  go_enter Tryz.func106, Tryz.ntmps106
  go_upto_region 1 with (fail)
  have BX0 := Aside0.mk (new_blk (W := w0) (.cells (celA x ⟨A2, C2, A4, C4, A5, C5, A6, C6, A7, C7⟩) 60 (0, 0)) rfl)
  have HBW := Aside0.mk (below_alloc (Below.refl w0.heap.size w0) (.cells (celA x ⟨A2, C2, A4, C4, A5, C5, A6, C6, A7, C7⟩) 60 (0, 0)))
  generalize hxb : w0.heap.size = xb at BX0 ⊢
  have hxl : xb < (w0.alloc (.cells (celA x ⟨A2, C2, A4, C4, A5, C5, A6, C6, A7, C7⟩) 60 (0, 0))).heap.size := blk_lt BX0.out
  have HF : Aside0 (StA (fun _ => True) (w0.alloc (.cells (celA x ⟨A2, C2, A4, C4, A5, C5, A6, C6, A7, C7⟩) 60 (0, 0))) x ⟨A2, C2, A4, C4, A5, C5, A6, C6, A7, C7⟩) := ⟨⟨HF0.out.l2, Kd.F_alloc HF0.out.f2 _, HF0.out.l4, Kd.F_alloc HF0.out.f4 _, HF0.out.l5, Kd.F_alloc HF0.out.f5 _, HF0.out.l6, Kd.F_alloc HF0.out.f6 _, HF0.out.l7, Kd.F_alloc HF0.out.f7 _⟩⟩
  clear HF0
  generalize hW : w0.alloc (.cells (celA x ⟨A2, C2, A4, C4, A5, C5, A6, C6, A7, C7⟩) 60 (0, 0)) = w at BX0 HBW HF hxl ⊢
  clear hW
  have r2 : w.cell? ⟨xb, 2, none⟩ = some (.slice A2 x.f2.length C2) := (blk_cell BX0.out 2).trans rfl
  have r4 : w.cell? ⟨xb, 4, none⟩ = some (.slice A4 x.f4.length C4) := (blk_cell BX0.out 4).trans rfl
  have r5 : w.cell? ⟨xb, 5, none⟩ = some (.slice A5 x.f5.length C5) := (blk_cell BX0.out 5).trans rfl
  have r6 : w.cell? ⟨xb, 6, none⟩ = some (.slice A6 x.f6.length C6) := (blk_cell BX0.out 6).trans rfl
  have r7 : w.cell? ⟨xb, 7, none⟩ = some (.slice A7 x.f7.length C7) := (blk_cell BX0.out 7).trans rfl
  have hz := hxl
  have HFO := Aside0.mk (F_old HF.out.f4)
  have HF6 := Aside0.mk (F_old HF.out.f6)
  go_upto_region 2 with (first | (go_at_call 180; refine (concat_out (w := w.alloc (.cells #[.slice A5 x.f5.length C5, .slice A7 x.f7.length C7] 41 (0, 0))) (A1 := A5) (k1 := C5) (l1 := x.f5) (A2 := A7) (k2 := C7) (l2 := x.f7) ⟨blk_lt (new_blk _ rfl), (blk_cell (new_blk _ rfl) 0).trans rfl, (blk_cell (new_blk _ rfl) 1).trans rfl, Kd.F_alloc HF.out.f5 _, Kd.F_alloc HF.out.f7 _⟩ (Nat.le_refl _) HM.out.n5 HM.out.n7).mono ?_; rintro e1 w1 ⟨v1, rfl, ho, hb⟩; have HO1 := Aside0.mk (Kd.N_lower ho (base' := w.heap.size) (by simp)); have HB1 := Aside0.mk (below_step (below_alloc (Below.refl _ _) _) hb); clear ho hb))
  have BX1 := Aside0.mk ((HB1.out.block xb hxl).trans BX0.out)
  have t4 : w1.cell? ⟨xb, 4, none⟩ = some (.slice A4 x.f4.length C4) := (blk_cell BX1.out 4).trans rfl
  have hz1 := blk_lt BX1.out
  go_wp2
  go_loopg [3, 18] x.f4.length (fun kq v3 v18 w' => ∃ (j : Nat) (acc : List S43), v18 = .int .i64 (j : Int) ∧ Aside0 (j + kq = x.f4.length) ∧ Aside0 (acc = x.f5 ++ x.f7 ++ (x.f4.take j).flatten) ∧ Aside0 (acc.length ≤ 200000 + 20 * j) ∧ Aside0 ((x.f4.take j).any (fun r => decide (20 < r.length)) = false) ∧ Aside0 (Kd.N k43 43 w' w.heap.size (fun _ => True) v3 acc) ∧ Aside0 (Below w.heap.size w w'))
  case atStart => exact ⟨0, x.f5 ++ x.f7, rfl, ⟨by omega⟩, ⟨by simp⟩, ⟨by have := HM.out.n5; have := HM.out.n7; simp; omega⟩, ⟨by simp⟩, HO1, HB1⟩
  case round =>
    clear HO1 HB1
    obtain ⟨j, acc, rfl, HJ, HA, HAL, HN, HO, HB⟩ := hrel
    have hjl := HJ.out
    have hll := HM.out.n4
    cases gk with
    | zero =>
      have d0 : decide (j < x.f4.length) = false := decide_eq_false (by omega)
      have d0i : decide ((j : Int) < (x.f4.length : Int)) = false := decide_eq_false (by omega)
      have BX := Aside0.mk ((HB.out.block xb hxl).trans BX0.out)
      clear hjl hll
      have hNl := HN.out
      rw [List.take_of_length_le (by have := HJ.out; omega)] at hNl
      have HN1 := Aside0.mk hNl
      have hAe := HA.out
      rw [List.take_of_length_le (by have := HJ.out; omega)] at hAe
      have HA1 := Aside0.mk hAe
      have HAL1 := Aside0.mk (show acc.length ≤ 3000000 by have := HAL.out; have := HM.out.n4; have := HJ.out; omega)
      clear hNl hAe HN HA HAL
      go_upto_region 9 with (fail)
      have BX9 := Aside0.mk ((HB.out.block xb hxl).trans BX0.out)
      have s6 : wr.cell? ⟨xb, 6, none⟩ = some (.slice A6 x.f6.length C6) := (blk_cell BX9.out 6).trans rfl
      have hz9 := blk_lt BX9.out
      obtain ⟨acc0, hacc0⟩ : ∃ y, y = acc := ⟨_, rfl⟩
      rw [← hacc0] at HA1 HAL1 HO
      clear hacc0
      go_wp2
      go_loopg [3, 32] x.f6.length (fun kq v3 v32 w' => ∃ (j : Nat) (acc : List S43), v32 = .int .i64 (j : Int) ∧ Aside0 (j + kq = x.f6.length) ∧ Aside0 (acc = x.f5 ++ x.f7 ++ x.f4.flatten ++ (x.f6.take j).map (·.f1)) ∧ Aside0 (acc.length ≤ 3000000 + j) ∧ Aside0 (Kd.N k43 43 w' w.heap.size (fun _ => True) v3 acc) ∧ Aside0 (Below w.heap.size w w'))
      case atStart => exact ⟨0, acc0, rfl, ⟨by omega⟩, ⟨by rw [HA1.out]; simp⟩, ⟨HAL1.out⟩, HO, HB⟩
      case round =>
        clear HO HB HA1 HAL1 BX9
        obtain ⟨j, acc, rfl, HJ, HA, HAL, HO, HB⟩ := hrel
        have hjl := HJ.out
        have hll := HM.out.n6
        cases gk with
        | zero =>
          have d0 : decide (j < x.f6.length) = false := decide_eq_false (by omega)
          have d0i : decide ((j : Int) < (x.f6.length : Int)) = false := decide_eq_false (by omega)
          have hAe := HA.out
          rw [List.take_of_length_le (by omega)] at hAe
          have HAE : Aside0 (acc = allE x) := ⟨hAe⟩
          have HLE : acc.length ≤ 3100000 := by have := HAL.out; omega
          clear hjl hll hAe
          have BX := Aside0.mk ((HB.out.block xb hxl).trans BX0.out)
          have y2 : wr.cell? ⟨xb, 2, none⟩ = some (.slice A2 x.f2.length C2) := (blk_cell BX.out 2).trans rfl
          have y4 : wr.cell? ⟨xb, 4, none⟩ = some (.slice A4 x.f4.length C4) := (blk_cell BX.out 4).trans rfl
          have y5 : wr.cell? ⟨xb, 5, none⟩ = some (.slice A5 x.f5.length C5) := (blk_cell BX.out 5).trans rfl
          have y6 : wr.cell? ⟨xb, 6, none⟩ = some (.slice A6 x.f6.length C6) := (blk_cell BX.out 6).trans rfl
          have hzz := blk_lt BX.out
          have HOF := Aside0.mk (Kd.N_reads HO.out)
          obtain ⟨A9, c9, rfl, hc9, hC9⟩ := HOF.out
          have HC9 := Aside0.mk hC9
          clear hC9
          go_upto_region 15 with (fail)
          by_cases q2 : 16 < x.f2.length
          · replace q2 := q2
            have q2t := q2
            have q2d : decide (16 < x.f2.length) = true := decide_eq_true (by omega)
            have q2di : decide ((16 : Int) < (x.f2.length : Int)) = true := decide_eq_true (by omega)
            clear q2
            go_wp2
            go_ret
            refine ⟨?_, below_step HBW.out HB.out⟩
            rw [show longB x = true by unfold longB; rw [HN1.out, q2d]; simp]
            rfl
          · have q2d : decide (16 < x.f2.length) = false := decide_eq_false (by omega)
            have q2di : decide ((16 : Int) < (x.f2.length : Int)) = false := decide_eq_false (by omega)
            clear q2
            have q2 := q2d
            by_cases q4 : 50 < x.f4.length
            · replace q4 := q4
              have q4t := q4
              have q4d : decide (50 < x.f4.length) = true := decide_eq_true (by omega)
              have q4di : decide ((50 : Int) < (x.f4.length : Int)) = true := decide_eq_true (by omega)
              clear q4
              go_wp2
              go_ret
              refine ⟨?_, below_step HBW.out HB.out⟩
              rw [show longB x = true by unfold longB; rw [HN1.out, q2, q4d]; simp]
              rfl
            · have q4d : decide (50 < x.f4.length) = false := decide_eq_false (by omega)
              have q4di : decide ((50 : Int) < (x.f4.length : Int)) = false := decide_eq_false (by omega)
              clear q4
              have q4 := q4d
              by_cases q5 : 20 < x.f5.length
              · replace q5 := q5
                have q5t := q5
                have q5d : decide (20 < x.f5.length) = true := decide_eq_true (by omega)
                have q5di : decide ((20 : Int) < (x.f5.length : Int)) = true := decide_eq_true (by omega)
                clear q5
                go_wp2
                go_ret
                refine ⟨?_, below_step HBW.out HB.out⟩
                rw [show longB x = true by unfold longB; rw [HN1.out, q2, q4, q5d]; simp]
                rfl
              · have q5d : decide (20 < x.f5.length) = false := decide_eq_false (by omega)
                have q5di : decide ((20 : Int) < (x.f5.length : Int)) = false := decide_eq_false (by omega)
                clear q5
                have q5 := q5d
                by_cases q6 : 20 < x.f6.length
                · replace q6 := q6
                  have q6t := q6
                  have q6d : decide (20 < x.f6.length) = true := decide_eq_true (by omega)
                  have q6di : decide ((20 : Int) < (x.f6.length : Int)) = true := decide_eq_true (by omega)
                  clear q6
                  go_wp2
                  go_ret
                  refine ⟨?_, below_step HBW.out HB.out⟩
                  rw [show longB x = true by unfold longB; rw [HN1.out, q2, q4, q5, q6d]; simp]
                  rfl
                · have q6d : decide (20 < x.f6.length) = false := decide_eq_false (by omega)
                  have q6di : decide ((20 : Int) < (x.f6.length : Int)) = false := decide_eq_false (by omega)
                  clear q6
                  have q6 := q6d
                  go_wp2_with (first | (go_at_call 146; refine (contains_out (l := acc) hc9 HC9.out (by omega) (fun e he => HM.out.fu e (HAE.out ▸ he))).mono ?_; rintro e9 w9 ⟨rfl, hb⟩; have HB9 := Aside0.mk hb; clear hb))
                  go_ret
                  refine ⟨?_, below_step HBW.out (below_step HB.out HB9.out)⟩
                  rw [show longB x = acc.any deepB by unfold longB; rw [HN1.out, q2, q4, q5, q6, HAE.out]; simp]
                  rfl
        | succ k1 =>
          have d0 : decide (j < x.f6.length) = true := decide_eq_true (by omega)
          have d0i : decide ((j : Int) < (x.f6.length : Int)) = true := decide_eq_true (by omega)
          have p1 : 0 ≤ (j : Int) := by omega
          have q1 : (j : Int) < (x.f6.length : Int) := by omega
          have q2 : j < x.f6.length := by omega
          obtain ⟨ad, A0, c0, e0, x0, x1, x2, x3, x4, x5, x6, hl0, hf0⟩ := set_at (Kd.F_step HF6.out (fun q hq _ => HB.out.block q hq)) j q2
          cases e0
          obtain ⟨S, hS⟩ : ∃ S, x.f6[j] = S := ⟨_, rfl⟩
          rw [hS] at x0 x1 x2 x3 x4 x5 x6 hl0 hf0
          have HR0 := Aside0.mk hf0
          have hw1 : wrap64 ((j : Int) + 1) = ((j + 1 : Nat) : Int) := by unfold wrap64; omega
          have HTK := Aside0.mk (show x.f6.take (j + 1) = x.f6.take j ++ [S] by rw [List.take_add_one, List.getElem?_eq_getElem q2, hS]; rfl)
          replace p1 := eq_true p1
          replace q1 := eq_true q1
          clear hf0 hS hjl hll
          go_upto_region 12 with (fail)
          have BS := Aside0.mk (new_blk (W := wr) (.cells #[.string S.f0, .string S.f1.f0, .int .i64 S.f1.f1.f0, .int .i64 S.f1.f1.f1, .string S.f1.f1.f2, .string S.f1.f2, .slice A0 S.f1.f3.length c0] 90 (0, 0)) rfl)
          have HOW := Aside0.mk (Kd.N_alloc HO.out (.cells #[.string S.f0, .string S.f1.f0, .int .i64 S.f1.f1.f0, .int .i64 S.f1.f1.f1, .string S.f1.f1.f2, .string S.f1.f2, .slice A0 S.f1.f3.length c0] 90 (0, 0)))
          have HBW2 := Aside0.mk (below_alloc HB.out (.cells #[.string S.f0, .string S.f1.f0, .int .i64 S.f1.f1.f0, .int .i64 S.f1.f1.f1, .string S.f1.f1.f2, .string S.f1.f2, .slice A0 S.f1.f3.length c0] 90 (0, 0)))
          have HR := Aside0.mk (FK43 hl0 (Kd.F_alloc HR0.out (.cells #[.string S.f0, .string S.f1.f0, .int .i64 S.f1.f1.f0, .int .i64 S.f1.f1.f1, .string S.f1.f1.f2, .string S.f1.f2, .slice A0 S.f1.f3.length c0] 90 (0, 0))))
          generalize hsb : wr.heap.size = sb at BS ⊢
          generalize hW : wr.alloc (.cells #[.string S.f0, .string S.f1.f0, .int .i64 S.f1.f1.f0, .int .i64 S.f1.f1.f1, .string S.f1.f1.f2, .string S.f1.f2, .slice A0 S.f1.f3.length c0] 90 (0, 0)) = W at BS HOW HBW2 HR ⊢
          clear hsb hW
          have z0 : W.cell? ⟨sb, 0, none⟩ = some (.string S.f0) := (blk_cell BS.out 0).trans rfl
          have z1 : W.cell? ⟨sb, 1, none⟩ = some (.string S.f1.f0) := (blk_cell BS.out 1).trans rfl
          have z2 : W.cell? ⟨sb, 2, none⟩ = some (.int .i64 S.f1.f1.f0) := (blk_cell BS.out 2).trans rfl
          have z3 : W.cell? ⟨sb, 3, none⟩ = some (.int .i64 S.f1.f1.f1) := (blk_cell BS.out 3).trans rfl
          have z4 : W.cell? ⟨sb, 4, none⟩ = some (.string S.f1.f1.f2) := (blk_cell BS.out 4).trans rfl
          have z5 : W.cell? ⟨sb, 5, none⟩ = some (.string S.f1.f2) := (blk_cell BS.out 5).trans rfl
          have z6 : W.cell? ⟨sb, 6, none⟩ = some (.slice A0 S.f1.f3.length c0) := (blk_cell BS.out 6).trans rfl
          have hsW := blk_lt BS.out
          go_wp2_with (first | ((with_reducible refine gate_builtin (b := .append) (xs := #[.tmp 36, .tmp 39]) rfl ?_); at_builtin; refine Kd.N_append k43 (w0 := w) w.heap.size rfl (.tmp 36) (.tmp 39) 41 43 (.agg #[(.string ⟨#[]⟩), (.int .i64 0), (.int .i64 0), (.string ⟨#[]⟩), (.string ⟨#[]⟩), (.slice none 0 0)]) 88 rfl Tryz.underlying41 info43 rfl (by decide) (by omega) u3 acc S.f1 (cells43 S.f1 A0 c0) (fun _ => True) (fun q => q < w.heap.size) rfl rfl HR.out ?aP (fun _ _ => trivial) HOW.out HBW2.out HBW2.out.size ?aL ?_; (case aP => exact fun q hq => ⟨trivial, fun he => by have := Kd.N_base HOW.out q he.symm; omega⟩); (case aL => have := HAL.out; have := HJ.out; have := HM.out.n6; omega); intro v6 w6 ho hb hg hat; have HO6 := Aside0.mk ho; have HB6 := Aside0.mk hb; clear ho hb hg hat))
          go_roundg k1
          case measure => omega
          case rel => exact ⟨j + 1, acc ++ [S.f1], by rw [hw1], ⟨by have := HJ.out; omega⟩, ⟨by rw [HTK.out, HA.out]; simp⟩, ⟨by have := HAL.out; simp; omega⟩, HO6, HB6⟩
    | succ k1 =>
      have d0 : decide (j < x.f4.length) = true := decide_eq_true (by omega)
      have d0i : decide ((j : Int) < (x.f4.length : Int)) = true := decide_eq_true (by omega)
      have p1 : 0 ≤ (j : Int) := by omega
      have q1 : (j : Int) < (x.f4.length : Int) := by omega
      have q2 : j < x.f4.length := by omega
      obtain ⟨ad, A0, c0, e0, x0, hl0, hf0⟩ := row_at (Kd.F_step HFO.out (fun q hq _ => HB.out.block q hq)) j q2
      cases e0
      obtain ⟨R, hR⟩ : ∃ R, x.f4[j] = R := ⟨_, rfl⟩
      rw [hR] at x0 hl0 hf0
      have HR := Aside0.mk hf0
      have HRE := Aside0.mk hR
      have hw1 : wrap64 ((j : Int) + 1) = ((j + 1 : Nat) : Int) := by unfold wrap64; omega
      have HTK := Aside0.mk (show x.f4.take (j + 1) = x.f4.take j ++ [R] by rw [List.take_add_one, List.getElem?_eq_getElem q2, hR]; rfl)
      replace p1 := eq_true p1
      replace q1 := eq_true q1
      clear hf0 hR
      by_cases hb20 : 20 < R.length
      · have d2 : decide (20 < R.length) = true := decide_eq_true (by omega)
        have d2i : decide ((20 : Int) < (R.length : Int)) = true := decide_eq_true (by omega)
        have HRL := Aside0.mk hb20
        clear hb20 hjl hll
        go_wp2
        go_ret
        refine ⟨?_, below_step HBW.out HB.out⟩
        have h1 : x.f4.any (fun r => decide (20 < r.length)) = true := by
          rw [← List.take_append_drop (j + 1) x.f4, List.any_append, HTK.out, List.any_append]
          simp [HRL.out]
        have h2 : longB x = true := by unfold longB; rw [h1]; simp only [Bool.true_or]
        rw [h2]
        rfl
      · have d2 : decide (20 < R.length) = false := decide_eq_false (by omega)
        have d2i : decide ((20 : Int) < (R.length : Int)) = false := decide_eq_false (by omega)
        have HRL := Aside0.mk hb20
        clear hb20 hjl hll
        go_wp2_with (first | ((with_reducible refine gate_builtin (b := .append) (xs := #[.tmp 25, .tmp 26]) rfl ?_); at_builtin; refine Kd.N_append_rows k43 (w0 := w) w.heap.size rfl (.tmp 25) (.tmp 26) 41 43 (.agg #[(.string ⟨#[]⟩), (.int .i64 0), (.int .i64 0), (.string ⟨#[]⟩), (.string ⟨#[]⟩), (.slice none 0 0)]) 88 rfl Tryz.underlying41 info43 rfl (by decide) (by omega) u3 acc R A0 R.length c0 (fun _ => True) (fun q => q < w.heap.size) rfl rfl HO.out HR.out ?aP (fun _ _ => trivial) HB.out HB.out.size ?aL ?_; (case aP => exact fun q hq => ⟨trivial, fun he => by have := Kd.N_base HO.out q he.symm; omega⟩); (case aL => have := HAL.out; have := HRL.out; have := HJ.out; have := HM.out.n4; omega); intro v6 w6 ho hb hg hat; have HO6 := Aside0.mk ho; have HB6 := Aside0.mk hb; clear ho hb hg hat))
        go_roundg k1
        case measure => omega
        case rel => exact ⟨j + 1, acc ++ R, by rw [hw1], ⟨by have := HJ.out; omega⟩, ⟨by rw [HTK.out, HA.out]; simp⟩, ⟨by have := HAL.out; have := HRL.out; simp; omega⟩, ⟨by rw [HTK.out, List.any_append, HN.out]; first | (simp [HRL.out]; done) | (simp [HRL.out]; have := HRL.out; omega)⟩, HO6, HB6⟩
end Go.Proofs.YtcgdncpioafbdaaGreatDoor.Q

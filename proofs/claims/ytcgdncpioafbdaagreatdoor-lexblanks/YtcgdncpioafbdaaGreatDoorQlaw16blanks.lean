-- Written by a program of this seat (wip/pr.py, by way of the kit's print) out of the translation; Lean checks it.
import Derived.Test.YtcgdncpioafbdaaGreatDoorQ0
import Derived.Test.YtcgdncpioafbdaaGreatDoorQlexD
import Derived.Test.YtcgdncpioafbdaaGreatDoorQlex
import Derived.Test.YtcgdncpioafbdaaGreatDoorQref16D
import Derived.Test.YtcgdncpioafbdaaGreatDoorQref16
import Derived.Test.YtcgdncpioafbdaaGreatDoorQlaw16D
import Derived.Test.YtcgdncpioafbdaaGreatDoorGV
import Derived.Test.YtcgdncpioafbdaaGreatDoorTok
import Derived.Test.YtcgdncpioafbdaaGreatDoorTokF
import Derived.Test.YtcgdncpioafbdaaGreatDoorQlaw16awake
import Derived.Test.YtcgdncpioafbdaaGreatDoorRtokL
namespace Go.Proofs.YtcgdncpioafbdaaGreatDoor.Q
open Go.RowKit Go.Proofs.YtcgdncpioafbdaaGreatDoorW.PrintWords Go.Proofs.YtcgdncpioafbdaaGreatDoorW.PrintLast Go.Proofs.YtcgdncpioafbdaaGreatDoorW.PrintMore
attribute [local go_sem] max2_int min2_int max_two min_two max_three min_three max_four min_four   -- for this text's walks alone
set_option linter.unusedVariables false
set_option linter.unusedSimpArgs false

/-! ### vidimuslaw16_remark: function 21 -/
set_option maxHeartbeats 8000000 in
set_option maxRecDepth 100000 in
theorem vidimuslaw16_remark.calls (k : Nat) (a0 : ByteArray) (r : Bool) (w : World) (h : vidimuslaw16_remark.f k a0 = some r) :
    Calls Tryz.prog 21 #[.string a0] w fun e w' => e = .returned (.bool r) ∧ Drawn0 w w' := by
  have H : (vidimuslaw16_remark.l0 k a0 1) = some r := h
  clear h
  have H' := Aside0.mk H
  clear H
  go_enter Tryz.func21, Tryz.ntmps21
  go_wp2
  go_loopg [3] k (fun kq v3 w' => ∃ (x3_1 : Int), v3 = .int .i64 x3_1 ∧ Aside0 (vidimuslaw16_remark.l0 kq a0 x3_1 = some r) ∧ Aside0 (kq ≤ k) ∧ Drawn0 w w')
  case atStart => exact ⟨(1), (by first | rfl | (simp; done) | (simp [*]; done)), H', ⟨Nat.le_refl _⟩, by repeat (first | exact Drawn0.refl _ | apply Drawn0.step)⟩
  case round =>
    clear H'
    obtain ⟨x3_1, rfl, HA, HK1, ⟨m1, rfl⟩⟩ := hrel
    cases gk with
    | zero => exact absurd HA.out (by simp [vidimuslaw16_remark.l0])
    | succ k1 =>
      have H := HA.out
      clear HA
      simp only [vidimuslaw16_remark.l0] at H
      by_cases c2 : x3_1 < (a0.size : Int)
      · rw [if_pos c2] at H
        have c2b0 : decide (x3_1 < (a0.size : Int)) = true := decide_eq_true c2
        clear c2
        by_cases c3 : 0 ≤ x3_1
        · rw [if_pos c3] at H
          have c3b0 : decide (0 ≤ x3_1) = true := decide_eq_true c3
          clear c3
          by_cases c5 : (bt a0 x3_1) = 45
          · rw [if_pos c5] at H
            have c5b0 : ((bt a0 x3_1) == 45) = true := beq_iff_eq.mpr c5
            have c5b1 : ((bt a0 x3_1) != 45) = false := bne_eq_false_iff_eq.mpr c5
            clear c5
            obtain ⟨ji6, hji6⟩ : ∃ j_ : Int, (wrap64 (x3_1 - 1)) = j_ := ⟨_, rfl⟩
            replace H : (if 0 ≤ (ji6) then (if (ji6) < (a0.size : Int) then (if (bt a0 (ji6)) = 45 then (some true) else (vidimuslaw16_remark.l0 k1 a0 (wrap64 (x3_1 + 1)))) else (none)) else (none)) = some r := by first | (rw [hji6] at H; exact H) | (simp only [hji6] at H ⊢; exact H)
            have hji6w : (IntKind.i64.wrap (x3_1 - 1)) = ji6 := (i64_w _).trans hji6
            by_cases c7 : 0 ≤ (ji6)
            · rw [if_pos c7] at H
              have c7b0 : decide (0 ≤ (ji6)) = true := decide_eq_true c7
              clear c7
              by_cases c8 : (ji6) < (a0.size : Int)
              · rw [if_pos c8] at H
                have c8b0 : decide ((ji6) < (a0.size : Int)) = true := decide_eq_true c8
                clear c8
                by_cases c10 : (bt a0 (ji6)) = 45
                · rw [if_pos c10] at H
                  have c10b0 : ((bt a0 (ji6)) == 45) = true := beq_iff_eq.mpr c10
                  have c10b1 : ((bt a0 (ji6)) != 45) = false := bne_eq_false_iff_eq.mpr c10
                  clear c10
                  obtain rfl := Option.some.inj H
                  have p4 : 0 ≤ (x3_1 : Int) := of_decide_eq_true (by first | (with_reducible assumption) | assumption)
                  have q4 : x3_1 < (a0.size : Int) := of_decide_eq_true (by first | (with_reducible assumption) | assumption)
                  have hx4 := bt_at a0 x3_1
                  replace p4 := eq_true p4
                  replace q4 := eq_true q4
                  have p9 : 0 ≤ ((ji6) : Int) := of_decide_eq_true (by first | (with_reducible assumption) | assumption)
                  have q9 : (ji6) < (a0.size : Int) := of_decide_eq_true (by first | (with_reducible assumption) | assumption)
                  have hx9 := bt_at a0 (ji6)
                  replace p9 := eq_true p9
                  replace q9 := eq_true q9
                  go_wp2
                  go_ret
                  exact ⟨by first | rfl | (simp; done) | (simp only [← hji6] <;> (first | rfl | simp)) | (simp [*]; done), by repeat (first | exact Drawn0.refl _ | apply Drawn0.step)⟩
                · rw [if_neg c10] at H
                  have c10b0 : ((bt a0 (ji6)) == 45) = false := beq_eq_false_iff_ne.mpr c10
                  have c10b1 : ((bt a0 (ji6)) != 45) = true := bne_iff_ne.mpr c10
                  have H' := Aside0.mk H
                  clear H
                  have p4 : 0 ≤ (x3_1 : Int) := of_decide_eq_true (by first | (with_reducible assumption) | assumption)
                  have q4 : x3_1 < (a0.size : Int) := of_decide_eq_true (by first | (with_reducible assumption) | assumption)
                  have hx4 := bt_at a0 x3_1
                  replace p4 := eq_true p4
                  replace q4 := eq_true q4
                  have p9 : 0 ≤ ((ji6) : Int) := of_decide_eq_true (by first | (with_reducible assumption) | assumption)
                  have q9 : (ji6) < (a0.size : Int) := of_decide_eq_true (by first | (with_reducible assumption) | assumption)
                  have hx9 := bt_at a0 (ji6)
                  replace p9 := eq_true p9
                  replace q9 := eq_true q9
                  go_wp2
                  go_roundg k1
                  case measure => have := HK1.out; omega
                  case rel => exact ⟨(wrap64 (x3_1 + 1)), (by first | rfl | (simp; done) | (simp [*]; done)), H', ⟨by have := HK1.out; omega⟩, by repeat (first | exact Drawn0.refl _ | apply Drawn0.step)⟩
              · rw [if_neg c8] at H
                exact absurd H (by simp)
            · rw [if_neg c7] at H
              exact absurd H (by simp)
          · rw [if_neg c5] at H
            have c5b0 : ((bt a0 x3_1) == 45) = false := beq_eq_false_iff_ne.mpr c5
            have c5b1 : ((bt a0 x3_1) != 45) = true := bne_iff_ne.mpr c5
            have H' := Aside0.mk H
            clear H
            have p4 : 0 ≤ (x3_1 : Int) := of_decide_eq_true (by first | (with_reducible assumption) | assumption)
            have q4 : x3_1 < (a0.size : Int) := of_decide_eq_true (by first | (with_reducible assumption) | assumption)
            have hx4 := bt_at a0 x3_1
            replace p4 := eq_true p4
            replace q4 := eq_true q4
            go_wp2
            go_roundg k1
            case measure => have := HK1.out; omega
            case rel => exact ⟨(wrap64 (x3_1 + 1)), (by first | rfl | (simp; done) | (simp [*]; done)), H', ⟨by have := HK1.out; omega⟩, by repeat (first | exact Drawn0.refl _ | apply Drawn0.step)⟩
        · rw [if_neg c3] at H
          exact absurd H (by simp)
      · rw [if_neg c2] at H
        have c2b0 : decide (x3_1 < (a0.size : Int)) = false := decide_eq_false c2
        clear c2
        obtain rfl := Option.some.inj H
        go_wp2
        go_ret
        exact ⟨by first | rfl | (simp; done) | (simp [*]; done), by repeat (first | exact Drawn0.refl _ | apply Drawn0.step)⟩

/-! ### vidimuslaw16_LexBlanks: function 5 -/
set_option maxHeartbeats 8000000 in
set_option maxRecDepth 100000 in
theorem vidimuslaw16_LexBlanks.calls (k : Nat) (A0 : Option Addr) (c0 : Nat) (l0 : List ByteArray) (A1 : Option Addr) (c1 : Nat) (l1 : List Int) (r : Bool) (w : World) (hr0 : Kd.C Kd.string w A0 l0.length l0) (hc0 : l0.length ≤ c0) (hr1 : Kd.C (Kd.int .u8) w A1 l1.length l1) (hc1 : l1.length ≤ c1) (h : vidimuslaw16_LexBlanks.f k l0 l1 = some r) (hG : GV w) :
    Calls Tryz.prog 5 #[.slice A0 l0.length c0, .slice A1 l1.length c1] w fun e w' => e = .returned (.bool r) ∧ Below w.heap.size w w' := by
  have HR0 := Aside0.mk hr0
  have HC0 := Aside0.mk hc0
  clear hr0 hc0
  have HR1 := Aside0.mk hr1
  have HC1 := Aside0.mk hc1
  clear hr1 hc1
  have HB := Aside0.mk (Below.refl w.heap.size w)
  have H : ((vidimuslaw16_awake.f k).bind fun t182 => (if t182 = true then (if (l0.length : Int) > 20 then (vidimuslaw16_LexBlanks.j0 k l0 l1 true) else (vidimuslaw16_LexBlanks.j0 k l0 l1 (decide ((l1.length : Int) > 20)))) else (some false))) = some r := h
  clear h
  replace H := Option.bind_eq_some_iff.mp H
  obtain ⟨t182, A30, H⟩ := H
  replace H : (if t182 = true then (if (l0.length : Int) > 20 then (vidimuslaw16_LexBlanks.j0 k l0 l1 true) else (vidimuslaw16_LexBlanks.j0 k l0 l1 (decide ((l1.length : Int) > 20)))) else (some false)) = some r := H
  have A3 := Aside0.mk A30
  clear A30
  by_cases c4 : t182 = true
  · subst c4
    have H1 : (if (l0.length : Int) > 20 then (vidimuslaw16_LexBlanks.j0 k l0 l1 true) else (vidimuslaw16_LexBlanks.j0 k l0 l1 (decide ((l1.length : Int) > 20)))) = some r := by rw [if_pos rfl] at H; exact H
    clear H
    have H := H1
    clear H1
    have HC5 := Aside0.mk H
    clear H
    go_enter Tryz.func5, Tryz.ntmps5
    go_upto_region 3 with (first | ((with_reducible refine gate_callee (f := 15) rfl ?_); refine goesL_ (some 18) rfl rfl Tryz.func15 (by kernel_rfl) rfl #[] rfl (by (try simp only [List.map_toArray, List.map_cons, List.map_nil]); first | done | rfl | (simp only [List.length_drop, List.length_take]; rfl)) ?_; (with_reducible refine (vidimuslaw16_awake.calls k  true _ A3.out (GV.below hG (by repeat (first | (with_reducible first | exact HB.out | apply below_alloc | apply pw_below_drewN | apply below_drew1) | exact HB.out)))).mono ?_); rintro e w6 ⟨rfl, hb⟩; refine ⟨_, rfl, ?_⟩; have n0_ := Aside0.mk (below_step (by repeat (first | (with_reducible first | exact HB.out | apply below_alloc | apply pw_below_drewN | apply below_drew1) | exact HB.out)) hb); clear HB; have HB := n0_; clear n0_; (try clear hb); (try clear hb2); (try clear hk); (try clear hi)))
    (try simp only [Act.put, List.setIfInBounds_toArray, List.set_cons_zero, List.set_cons_succ])
    go_cut [27] (fun v27 wc => ∃ (kq : Nat) (x27_4 : Bool), v27 = .bool x27_4 ∧ Aside0 (vidimuslaw16_LexBlanks.j0 kq l0 l1 x27_4 = some r) ∧ Aside0 (kq ≤ k) ∧ Aside0 (Below w.heap.size w wc))
    case first =>
      have H := HC5.out
      clear HC5
      by_cases c7 : (l0.length : Int) > 20
      · rw [if_pos c7] at H
        have c7b0 : decide (20 < (l0.length : Int)) = true := decide_eq_true c7
        have c7b1 : decide (20 < l0.length) = true := decide_eq_true (by omega)
        clear c7
        (first | rw [c7b0] | (simp only [i64_w, i32_w]; rw [c7b0]) | skip)
        have H' := Aside0.mk H
        clear H
        go_wp2
        go_meet
        case rel => exact ⟨_, (true), (by first | rfl | (simp; done) | (simp [*]; done)), H', ⟨by first | omega | exact Nat.le_refl _⟩, ⟨by repeat (first | (with_reducible first | exact HB.out | apply below_alloc | apply pw_below_drewN | apply below_drew1) | exact HB.out)⟩⟩
      · rw [if_neg c7] at H
        have c7b0 : decide (20 < (l0.length : Int)) = false := decide_eq_false c7
        have c7b1 : decide (20 < l0.length) = false := decide_eq_false (by omega)
        clear c7
        (first | rw [c7b0] | (simp only [i64_w, i32_w]; rw [c7b0]) | skip)
        have H' := Aside0.mk H
        clear H
        go_wp2
        go_meet
        case rel => exact ⟨_, (decide ((l1.length : Int) > 20)), (by first | rfl | (simp; done) | (simp [*]; done)), H', ⟨by first | omega | exact Nat.le_refl _⟩, ⟨by repeat (first | (with_reducible first | exact HB.out | apply below_alloc | apply pw_below_drewN | apply below_drew1) | exact HB.out)⟩⟩
    case rest =>
      clear HC5
      try clear c1
      try clear p2
      try clear c4
      try clear c5
      try clear c7
      try clear c7b0
      try clear c7b1
      obtain ⟨kq, x27_4, rfl, HA, HJ4, HB⟩ := hcut
      cases kq with
      | zero => exact absurd HA.out (by simp [vidimuslaw16_LexBlanks.j0])
      | succ kj4 =>
        have H := HA.out
        clear HA
        simp only [vidimuslaw16_LexBlanks.j0] at H
        by_cases c8 : x27_4 = true
        · subst c8
          have H1 : (some true) = some r := by rw [if_pos rfl] at H; exact H
          clear H
          have H := H1
          clear H1
          obtain rfl := Option.some.inj H
          go_wp2
          go_ret
          exact ⟨by first | rfl | (simp [errW_none, errW_some] <;> rfl) | (simp [*, errW_none, errW_some] <;> rfl), by repeat (first | (with_reducible first | exact HB.out | apply below_alloc | apply pw_below_drewN | apply below_drew1) | exact HB.out)⟩
        · replace c8 := Bool.eq_false_iff.mpr c8
          subst c8
          have H1 : (vidimuslaw16_LexBlanks.l0 kj4 l0 l1 (⟨#[]⟩ : ByteArray) (⟨#[]⟩ : ByteArray) l0 (l0.length : Int) 0) = some r := by rw [if_neg (show ¬ (false = true) by decide)] at H; exact H
          clear H
          have H := H1
          clear H1
          have H' := Aside0.mk H
          clear H
          go_wp2
          go_loopg [5, 6, 30] kj4 (fun kq v5 v6 v30 w' => ∃ (x5_2 : ByteArray) (x6_2 : ByteArray) (x30_2 : Int), v5 = .string x5_2 ∧ v6 = .string x6_2 ∧ v30 = .int .i64 x30_2 ∧ Aside0 (vidimuslaw16_LexBlanks.l0 kq l0 l1 x5_2 x6_2 l0 (l0.length : Int) x30_2 = some r) ∧ Aside0 (kq ≤ kj4) ∧ Aside0 (Below w.heap.size w w'))
          case atStart => exact ⟨((⟨#[]⟩ : ByteArray)), ((⟨#[]⟩ : ByteArray)), (0), (by first | rfl | (simp; done) | (simp [*]; done)), (by first | rfl | (simp; done) | (simp [*]; done)), (by first | rfl | (simp; done) | (simp [*]; done)), H', ⟨Nat.le_refl _⟩, ⟨by repeat (first | (with_reducible first | exact HB.out | apply below_alloc | apply pw_below_drewN | apply below_drew1) | exact HB.out)⟩⟩
          case round =>
            clear H'
            try clear c1
            try clear p2
            try clear c4
            try clear c5
            try clear c7
            try clear c7b0
            try clear c7b1
            try clear c8
            try clear p2
            obtain ⟨x5_2, x6_2, x30_2, rfl, rfl, rfl, HA, HK2, HB⟩ := hrel
            cases gk with
            | zero => exact absurd HA.out (by simp [vidimuslaw16_LexBlanks.l0])
            | succ k2 =>
              have H := HA.out
              clear HA
              simp only [vidimuslaw16_LexBlanks.l0] at H
              by_cases c9 : x30_2 < (l0.length : Int)
              · rw [if_pos c9] at H
                have c9b0 : decide (x30_2 < (l0.length : Int)) = true := decide_eq_true c9
                clear c9
                by_cases c10 : 0 ≤ x30_2
                · rw [if_pos c10] at H
                  have c10b0 : decide (0 ≤ x30_2) = true := decide_eq_true c10
                  clear c10
                  by_cases c11 : x30_2 < (l0.length : Int)
                  · rw [if_pos c11] at H
                    have c11b0 : decide (x30_2 < (l0.length : Int)) = true := decide_eq_true c11
                    clear c11
                    by_cases c12 : ((rdOf ByteArray.empty l0 x30_2).size : Int) > 40
                    · rw [if_pos c12] at H
                      have c12b0 : decide (40 < ((rdOf ByteArray.empty l0 x30_2).size : Int)) = true := decide_eq_true c12
                      have c12b1 : decide (40 < (rdOf ByteArray.empty l0 x30_2).size) = true := decide_eq_true (by omega)
                      clear c12
                      obtain rfl := Option.some.inj H
                      have p192 : 0 ≤ (x30_2 : Int) := of_decide_eq_true (by first | (with_reducible assumption) | assumption)
                      have q192 : x30_2 < (l0.length : Int) := of_decide_eq_true (by first | (with_reducible assumption) | assumption)
                      obtain ⟨ad192, e192, hx192_0⟩ := Kd.at_string HR0.out x30_2 p192 q192
                      cases e192
                      replace hx192_0 := (HB.out.cell (World.block_lt_of_cell? w _ hx192_0)).trans hx192_0
                      replace p192 := eq_true p192
                      replace q192 := eq_true q192
                      go_wp2
                      go_ret
                      exact ⟨by first | rfl | (simp [errW_none, errW_some] <;> rfl) | (simp [*, errW_none, errW_some] <;> rfl), by repeat (first | (with_reducible first | exact HB.out | apply below_alloc | apply pw_below_drewN | apply below_drew1) | exact HB.out)⟩
                    · rw [if_neg c12] at H
                      have c12b0 : decide (40 < ((rdOf ByteArray.empty l0 x30_2).size : Int)) = false := decide_eq_false c12
                      have c12b1 : decide (40 < (rdOf ByteArray.empty l0 x30_2).size) = false := decide_eq_false (by omega)
                      clear c12
                      replace H := Option.bind_eq_some_iff.mp H
                      obtain ⟨⟨t193, t194⟩, A130, H⟩ := H
                      replace H : ((vidimusref16_Tokens.f (rdOf ByteArray.empty l0 x30_2)).bind fun bt197 => (if t194 = 0 then (if (t193.length : Int) = 2 then ((vidimuslaw16_remark.f k2 (rdOf ByteArray.empty l0 x30_2)).bind fun t201 => (if t201 = true then (vidimuslaw16_LexBlanks.j2 k2 l0 l1 x5_2 x6_2 x30_2 (rdOf ByteArray.empty l0 x30_2) l0 (l0.length : Int) x30_2 true) else (vidimuslaw16_LexBlanks.j2 k2 l0 l1 x5_2 x6_2 x30_2 (rdOf ByteArray.empty l0 x30_2) l0 (l0.length : Int) x30_2 ((bt197.1.length : Int) != 2)))) else (vidimuslaw16_LexBlanks.j2 k2 l0 l1 x5_2 x6_2 x30_2 (rdOf ByteArray.empty l0 x30_2) l0 (l0.length : Int) x30_2 true)) else (vidimuslaw16_LexBlanks.j2 k2 l0 l1 x5_2 x6_2 x30_2 (rdOf ByteArray.empty l0 x30_2) l0 (l0.length : Int) x30_2 true))) = some r := H
                      have A13 := Aside0.mk A130
                      clear A130
                      replace H := Option.bind_eq_some_iff.mp H
                      obtain ⟨⟨t197, t198⟩, A140, H⟩ := H
                      replace H : (if t194 = 0 then (if (t193.length : Int) = 2 then ((vidimuslaw16_remark.f k2 (rdOf ByteArray.empty l0 x30_2)).bind fun t201 => (if t201 = true then (vidimuslaw16_LexBlanks.j2 k2 l0 l1 x5_2 x6_2 x30_2 (rdOf ByteArray.empty l0 x30_2) l0 (l0.length : Int) x30_2 true) else (vidimuslaw16_LexBlanks.j2 k2 l0 l1 x5_2 x6_2 x30_2 (rdOf ByteArray.empty l0 x30_2) l0 (l0.length : Int) x30_2 ((t197.length : Int) != 2)))) else (vidimuslaw16_LexBlanks.j2 k2 l0 l1 x5_2 x6_2 x30_2 (rdOf ByteArray.empty l0 x30_2) l0 (l0.length : Int) x30_2 true)) else (vidimuslaw16_LexBlanks.j2 k2 l0 l1 x5_2 x6_2 x30_2 (rdOf ByteArray.empty l0 x30_2) l0 (l0.length : Int) x30_2 true)) = some r := H
                      have A14 := Aside0.mk A140
                      clear A140
                      have HC15 := Aside0.mk H
                      clear H
                      have p192 : 0 ≤ (x30_2 : Int) := of_decide_eq_true (by first | (with_reducible assumption) | assumption)
                      have q192 : x30_2 < (l0.length : Int) := of_decide_eq_true (by first | (with_reducible assumption) | assumption)
                      obtain ⟨ad192, e192, hx192_0⟩ := Kd.at_string HR0.out x30_2 p192 q192
                      cases e192
                      replace hx192_0 := (HB.out.cell (World.block_lt_of_cell? w _ hx192_0)).trans hx192_0
                      replace p192 := eq_true p192
                      replace q192 := eq_true q192
                      go_upto_region 13 with (first | ((with_reducible refine gate_callee (f := 16) rfl ?_); refine goesL_ (some 40) rfl rfl Tryz.func16 (by kernel_rfl) rfl #[.string (rdOf ByteArray.empty l0 x30_2)] rfl (by (try simp only [List.map_toArray, List.map_cons, List.map_nil]); first | done | rfl | (simp only [List.length_drop, List.length_take]; rfl)) ?_; (with_reducible refine (lex_Tokens.calls (rdOf ByteArray.empty l0 x30_2) t193 t194 _ A13.out (GV.below hG (by repeat (first | (with_reducible first | exact HB.out | apply below_alloc | apply pw_below_drewN | apply below_drew1) | exact HB.out)))).mono ?_); rintro e w16 ⟨v195, rfl, ho0, hb⟩; refine ⟨_, rfl, ?_⟩; have n0_ := Aside0.mk (Kd.R_lower ho0 (below_size (by repeat (first | (with_reducible first | exact HB.out | apply below_alloc | apply pw_below_drewN | apply below_drew1) | exact HB.out)))); have n1_ := Aside0.mk (below_step (by repeat (first | (with_reducible first | exact HB.out | apply below_alloc | apply pw_below_drewN | apply below_drew1) | exact HB.out)) hb); clear HB; have HO196 := n0_; have HB := n1_; clear n0_ n1_; (try clear hb); (try clear hb2); (try clear hk); (try clear hi); (try clear ho0)) | ((with_reducible refine gate_callee (f := 17) rfl ?_); refine goesL_ (some 45) rfl rfl Tryz.func17 (by kernel_rfl) rfl #[.string (rdOf ByteArray.empty l0 x30_2)] rfl (by (try simp only [List.map_toArray, List.map_cons, List.map_nil]); first | done | rfl | (simp only [List.length_drop, List.length_take]; rfl)) ?_; (with_reducible refine (vidimusref16_Tokens.calls (rdOf ByteArray.empty l0 x30_2) t197 t198 _ A14.out).mono ?_); rintro e w17 ⟨v199, rfl, ho0, hb⟩; refine ⟨_, rfl, ?_⟩; have n0_ := Aside0.mk (Kd.R_elder' (by (with_reducible repeat (first | apply Kd.R_alloc | apply Kd.R_drewN | apply Kd.R_drew)); exact HO196.out) (Kd.R_base ho0) hb); have n1_ := Aside0.mk (Kd.R_lower (Kd.R_new' ho0 (Kd.R_lt (by (with_reducible repeat (first | apply Kd.R_alloc | apply Kd.R_drewN | apply Kd.R_drew)); exact HO196.out))) (below_size (by repeat (first | (with_reducible first | exact HB.out | apply below_alloc | apply pw_below_drewN | apply below_drew1) | exact HB.out)))); have n2_ := Aside0.mk (below_step (by repeat (first | (with_reducible first | exact HB.out | apply below_alloc | apply pw_below_drewN | apply below_drew1) | exact HB.out)) hb); clear HO196; clear HB; have HO196 := n0_; have HO200 := n1_; have HB := n2_; clear n0_ n1_ n2_; (try clear hb); (try clear hb2); (try clear hk); (try clear hi); (try clear ho0)))
                      (try simp only [Act.put, List.setIfInBounds_toArray, List.set_cons_zero, List.set_cons_succ])
                      go_cut [63] (fun v63 wc => ∃ (kq : Nat) (x63_14 : Bool), v63 = .bool x63_14 ∧ Aside0 (vidimuslaw16_LexBlanks.j2 kq l0 l1 x5_2 x6_2 x30_2 (rdOf ByteArray.empty l0 x30_2) l0 (l0.length : Int) x30_2 x63_14 = some r) ∧ Aside0 (kq ≤ k2) ∧ Aside0 (Below w.heap.size w wc))
                      case first =>
                        have H := HC15.out
                        clear HC15
                        by_cases c18 : t194 = 0
                        · rw [if_pos c18] at H
                          have c18b0 : (t194 == 0) = true := beq_iff_eq.mpr c18
                          have c18b1 : (t194 != 0) = false := bne_eq_false_iff_eq.mpr c18
                          clear c18
                          (first | rw [c18b0] | (simp only [i64_w, i32_w]; rw [c18b0]) | skip)
                          by_cases c19 : (t193.length : Int) = 2
                          · rw [if_pos c19] at H
                            have c19b0 : ((t193.length : Int) == 2) = true := beq_iff_eq.mpr c19
                            have c19b1 : ((t193.length : Int) != 2) = false := bne_eq_false_iff_eq.mpr c19
                            clear c19
                            replace H := Option.bind_eq_some_iff.mp H
                            obtain ⟨t201, A200, H⟩ := H
                            replace H : (if t201 = true then (vidimuslaw16_LexBlanks.j2 k2 l0 l1 x5_2 x6_2 x30_2 (rdOf ByteArray.empty l0 x30_2) l0 (l0.length : Int) x30_2 true) else (vidimuslaw16_LexBlanks.j2 k2 l0 l1 x5_2 x6_2 x30_2 (rdOf ByteArray.empty l0 x30_2) l0 (l0.length : Int) x30_2 ((t197.length : Int) != 2))) = some r := H
                            have A20 := Aside0.mk A200
                            clear A200
                            by_cases c21 : t201 = true
                            · subst c21
                              have H1 : (vidimuslaw16_LexBlanks.j2 k2 l0 l1 x5_2 x6_2 x30_2 (rdOf ByteArray.empty l0 x30_2) l0 (l0.length : Int) x30_2 true) = some r := by rw [if_pos rfl] at H; exact H
                              clear H
                              have H := H1
                              clear H1
                              have H' := Aside0.mk H
                              clear H
                              obtain ⟨Ao22, co22, eo22⟩ := Kd.R_slice HO196.out
                              subst eo22
                              go_wp2_with (first | (go_at_call 21; (with_reducible refine (vidimuslaw16_remark.calls k2 (rdOf ByteArray.empty l0 x30_2) true _ A20.out).mono ?_); rintro e w' ⟨rfl, ⟨nd, rfl⟩⟩))
                              go_meet
                              case rel => exact ⟨_, (true), (by first | rfl | (simp; done) | (simp [*]; done)), H', ⟨by have := HJ4.out; have := HK2.out; first | omega | exact Nat.le_refl _⟩, ⟨by repeat (first | (with_reducible first | exact HB.out | apply below_alloc | apply pw_below_drewN | apply below_drew1) | exact HB.out)⟩⟩
                            · replace c21 := Bool.eq_false_iff.mpr c21
                              subst c21
                              have H1 : (vidimuslaw16_LexBlanks.j2 k2 l0 l1 x5_2 x6_2 x30_2 (rdOf ByteArray.empty l0 x30_2) l0 (l0.length : Int) x30_2 ((t197.length : Int) != 2)) = some r := by rw [if_neg (show ¬ (false = true) by decide)] at H; exact H
                              clear H
                              have H := H1
                              clear H1
                              have H' := Aside0.mk H
                              clear H
                              obtain ⟨Ao23, co23, eo23⟩ := Kd.R_slice HO196.out
                              subst eo23
                              go_wp2_with (first | (go_at_call 21; (with_reducible refine (vidimuslaw16_remark.calls k2 (rdOf ByteArray.empty l0 x30_2) false _ A20.out).mono ?_); rintro e w' ⟨rfl, ⟨nd, rfl⟩⟩; obtain ⟨Ao24, co24, eo24⟩ := Kd.R_slice HO200.out; subst eo24))
                              go_meet
                              case rel => exact ⟨_, (((t197.length : Int) != 2)), (by first | rfl | (simp; done) | (simp [*]; done)), H', ⟨by have := HJ4.out; have := HK2.out; first | omega | exact Nat.le_refl _⟩, ⟨by repeat (first | (with_reducible first | exact HB.out | apply below_alloc | apply pw_below_drewN | apply below_drew1) | exact HB.out)⟩⟩
                          · rw [if_neg c19] at H
                            have c19b0 : ((t193.length : Int) == 2) = false := beq_eq_false_iff_ne.mpr c19
                            have c19b1 : ((t193.length : Int) != 2) = true := bne_iff_ne.mpr c19
                            have H' := Aside0.mk H
                            clear H
                            obtain ⟨Ao25, co25, eo25⟩ := Kd.R_slice HO196.out
                            subst eo25
                            go_wp2
                            go_meet
                            case rel => exact ⟨_, (true), (by first | rfl | (simp; done) | (simp [*]; done)), H', ⟨by have := HJ4.out; have := HK2.out; first | omega | exact Nat.le_refl _⟩, ⟨by repeat (first | (with_reducible first | exact HB.out | apply below_alloc | apply pw_below_drewN | apply below_drew1) | exact HB.out)⟩⟩
                        · rw [if_neg c18] at H
                          have c18b0 : (t194 == 0) = false := beq_eq_false_iff_ne.mpr c18
                          have c18b1 : (t194 != 0) = true := bne_iff_ne.mpr c18
                          (first | rw [c18b0] | (simp only [i64_w, i32_w]; rw [c18b0]) | skip)
                          have H' := Aside0.mk H
                          clear H
                          go_wp2
                          go_meet
                          case rel => exact ⟨_, (true), (by first | rfl | (simp; done) | (simp [*]; done)), H', ⟨by have := HJ4.out; have := HK2.out; first | omega | exact Nat.le_refl _⟩, ⟨by repeat (first | (with_reducible first | exact HB.out | apply below_alloc | apply pw_below_drewN | apply below_drew1) | exact HB.out)⟩⟩
                      case rest =>
                        clear HC15
                        try clear c1
                        try clear p1
                        try clear q1
                        try clear hx1
                        try clear c2
                        try clear p2
                        try clear c4
                        try clear c5
                        try clear c7
                        try clear c7b0
                        try clear c7b1
                        try clear c8
                        try clear c9
                        try clear c9b0
                        try clear c10
                        try clear c10b0
                        try clear c11
                        try clear c11b0
                        try clear c12
                        try clear c12b0
                        try clear c12b1
                        try clear c15
                        try clear c16
                        try clear c17
                        try clear c18
                        try clear c18b0
                        try clear c18b1
                        try clear c19
                        try clear c19b0
                        try clear c19b1
                        try clear p19
                        try clear q19
                        try clear hx19
                        try clear c21
                        try clear hx192_0
                        try clear p192
                        try clear p2
                        try clear q192
                        obtain ⟨kq, x63_14, rfl, HA, HJ14, HB⟩ := hcut
                        cases kq with
                        | zero => exact absurd HA.out (by simp [vidimuslaw16_LexBlanks.j2])
                        | succ kj14 =>
                          have H := HA.out
                          clear HA
                          simp only [vidimuslaw16_LexBlanks.j2] at H
                          by_cases c26 : x63_14 = true
                          · subst c26
                            have H1 : (some true) = some r := by rw [if_pos rfl] at H; exact H
                            clear H
                            have H := H1
                            clear H1
                            obtain rfl := Option.some.inj H
                            go_wp2
                            go_ret
                            exact ⟨by first | rfl | (simp [errW_none, errW_some] <;> rfl) | (simp [*, errW_none, errW_some] <;> rfl), by repeat (first | (with_reducible first | exact HB.out | apply below_alloc | apply pw_below_drewN | apply below_drew1) | exact HB.out)⟩
                          · replace c26 := Bool.eq_false_iff.mpr c26
                            subst c26
                            have H1 : (if x30_2 < (l1.length : Int) then (if 0 ≤ x30_2 then (if (Int.tmod (rd l1 x30_2) 4) = 1 then (if (rdOf ByteArray.empty l0 x30_2).size + 1 ≤ 9223372036854775807 then (if x5_2.size + ((rdOf ByteArray.empty l0 x30_2) ++ (⟨#[32]⟩ : ByteArray)).size ≤ 9223372036854775807 then (if (rdOf ByteArray.empty l0 x30_2).size + 5 ≤ 9223372036854775807 then (if x6_2.size + ((rdOf ByteArray.empty l0 x30_2) ++ (⟨#[9, 10, 13, 32, 32]⟩ : ByteArray)).size ≤ 9223372036854775807 then (vidimuslaw16_LexBlanks.l0 kj14 l0 l1 (x5_2 ++ ((rdOf ByteArray.empty l0 x30_2) ++ (⟨#[32]⟩ : ByteArray))) (x6_2 ++ ((rdOf ByteArray.empty l0 x30_2) ++ (⟨#[9, 10, 13, 32, 32]⟩ : ByteArray))) l0 (l0.length : Int) (wrap64 (x30_2 + 1))) else (none)) else (none)) else (none)) else (none)) else (if (Int.tmod (rd l1 x30_2) 4) = 2 then (if (rdOf ByteArray.empty l0 x30_2).size + 1 ≤ 9223372036854775807 then (if x5_2.size + ((rdOf ByteArray.empty l0 x30_2) ++ (⟨#[32]⟩ : ByteArray)).size ≤ 9223372036854775807 then (if (rdOf ByteArray.empty l0 x30_2).size + 19 ≤ 9223372036854775807 then (if x6_2.size + ((rdOf ByteArray.empty l0 x30_2) ++ (⟨#[32, 45, 45, 105, 116, 39, 115, 32, 97, 32, 114, 101, 109, 97, 114, 107, 32, 40, 10]⟩ : ByteArray)).size ≤ 9223372036854775807 then (vidimuslaw16_LexBlanks.l0 kj14 l0 l1 (x5_2 ++ ((rdOf ByteArray.empty l0 x30_2) ++ (⟨#[32]⟩ : ByteArray))) (x6_2 ++ ((rdOf ByteArray.empty l0 x30_2) ++ (⟨#[32, 45, 45, 105, 116, 39, 115, 32, 97, 32, 114, 101, 109, 97, 114, 107, 32, 40, 10]⟩ : ByteArray))) l0 (l0.length : Int) (wrap64 (x30_2 + 1))) else (none)) else (none)) else (none)) else (none)) else (if (Int.tmod (rd l1 x30_2) 4) = 3 then (if (rdOf ByteArray.empty l0 x30_2).size + 1 ≤ 9223372036854775807 then (if x5_2.size + ((rdOf ByteArray.empty l0 x30_2) ++ (⟨#[32]⟩ : ByteArray)).size ≤ 9223372036854775807 then (if (rdOf ByteArray.empty l0 x30_2).size + 8 ≤ 9223372036854775807 then (if x6_2.size + ((rdOf ByteArray.empty l0 x30_2) ++ (⟨#[10, 45, 45, 10, 45, 45, 120, 10]⟩ : ByteArray)).size ≤ 9223372036854775807 then (vidimuslaw16_LexBlanks.l0 kj14 l0 l1 (x5_2 ++ ((rdOf ByteArray.empty l0 x30_2) ++ (⟨#[32]⟩ : ByteArray))) (x6_2 ++ ((rdOf ByteArray.empty l0 x30_2) ++ (⟨#[10, 45, 45, 10, 45, 45, 120, 10]⟩ : ByteArray))) l0 (l0.length : Int) (wrap64 (x30_2 + 1))) else (none)) else (none)) else (none)) else (none)) else (if (rdOf ByteArray.empty l0 x30_2).size + 1 ≤ 9223372036854775807 then (if x5_2.size + ((rdOf ByteArray.empty l0 x30_2) ++ (⟨#[32]⟩ : ByteArray)).size ≤ 9223372036854775807 then (if x6_2.size + ((rdOf ByteArray.empty l0 x30_2) ++ (⟨#[32]⟩ : ByteArray)).size ≤ 9223372036854775807 then (vidimuslaw16_LexBlanks.l0 kj14 l0 l1 (x5_2 ++ ((rdOf ByteArray.empty l0 x30_2) ++ (⟨#[32]⟩ : ByteArray))) (x6_2 ++ ((rdOf ByteArray.empty l0 x30_2) ++ (⟨#[32]⟩ : ByteArray))) l0 (l0.length : Int) (wrap64 (x30_2 + 1))) else (none)) else (none)) else (none))))) else (none)) else (if (rdOf ByteArray.empty l0 x30_2).size + 1 ≤ 9223372036854775807 then (if x5_2.size + ((rdOf ByteArray.empty l0 x30_2) ++ (⟨#[32]⟩ : ByteArray)).size ≤ 9223372036854775807 then (if x6_2.size + ((rdOf ByteArray.empty l0 x30_2) ++ (⟨#[32]⟩ : ByteArray)).size ≤ 9223372036854775807 then (vidimuslaw16_LexBlanks.l0 kj14 l0 l1 (x5_2 ++ ((rdOf ByteArray.empty l0 x30_2) ++ (⟨#[32]⟩ : ByteArray))) (x6_2 ++ ((rdOf ByteArray.empty l0 x30_2) ++ (⟨#[32]⟩ : ByteArray))) l0 (l0.length : Int) (wrap64 (x30_2 + 1))) else (none)) else (none)) else (none))) = some r := by rw [if_neg (show ¬ (false = true) by decide)] at H; exact H
                            clear H
                            have H := H1
                            clear H1
                            by_cases c27 : x30_2 < (l1.length : Int)
                            · rw [if_pos c27] at H
                              have c27b0 : decide (x30_2 < (l1.length : Int)) = true := decide_eq_true c27
                              clear c27
                              by_cases c28 : 0 ≤ x30_2
                              · rw [if_pos c28] at H
                                have c28b0 : decide (0 ≤ x30_2) = true := decide_eq_true c28
                                clear c28
                                by_cases c29 : (Int.tmod (rd l1 x30_2) 4) = 1
                                · rw [if_pos c29] at H
                                  have c29b0 : ((Int.tmod (rd l1 x30_2) 4) == 1) = true := beq_iff_eq.mpr c29
                                  have c29b1 : ((Int.tmod (rd l1 x30_2) 4) != 1) = false := bne_eq_false_iff_eq.mpr c29
                                  clear c29
                                  by_cases c30 : (rdOf ByteArray.empty l0 x30_2).size + 1 ≤ 9223372036854775807
                                  · rw [if_pos c30] at H
                                    have c30b0 := eq_true c30
                                    have c30b1 : decide ((rdOf ByteArray.empty l0 x30_2).size + 1 ≤ 9223372036854775807) = true := decide_eq_true c30
                                    try have c30b2 : (9223372036854775807 < (rdOf ByteArray.empty l0 x30_2).size + 1) = False := eq_false (Nat.not_lt.2 c30)
                                    by_cases c31 : x5_2.size + ((rdOf ByteArray.empty l0 x30_2) ++ (⟨#[32]⟩ : ByteArray)).size ≤ 9223372036854775807
                                    · rw [if_pos c31] at H
                                      have c31b0 := eq_true c31
                                      have c31b1 : decide (x5_2.size + ((rdOf ByteArray.empty l0 x30_2) ++ (⟨#[32]⟩ : ByteArray)).size ≤ 9223372036854775807) = true := decide_eq_true c31
                                      try have c31b2 : (9223372036854775807 < x5_2.size + ((rdOf ByteArray.empty l0 x30_2) ++ (⟨#[32]⟩ : ByteArray)).size) = False := eq_false (Nat.not_lt.2 c31)
                                      by_cases c32 : (rdOf ByteArray.empty l0 x30_2).size + 5 ≤ 9223372036854775807
                                      · rw [if_pos c32] at H
                                        have c32b0 := eq_true c32
                                        have c32b1 : decide ((rdOf ByteArray.empty l0 x30_2).size + 5 ≤ 9223372036854775807) = true := decide_eq_true c32
                                        try have c32b2 : (9223372036854775807 < (rdOf ByteArray.empty l0 x30_2).size + 5) = False := eq_false (Nat.not_lt.2 c32)
                                        by_cases c33 : x6_2.size + ((rdOf ByteArray.empty l0 x30_2) ++ (⟨#[9, 10, 13, 32, 32]⟩ : ByteArray)).size ≤ 9223372036854775807
                                        · rw [if_pos c33] at H
                                          have c33b0 := eq_true c33
                                          have c33b1 : decide (x6_2.size + ((rdOf ByteArray.empty l0 x30_2) ++ (⟨#[9, 10, 13, 32, 32]⟩ : ByteArray)).size ≤ 9223372036854775807) = true := decide_eq_true c33
                                          try have c33b2 : (9223372036854775807 < x6_2.size + ((rdOf ByteArray.empty l0 x30_2) ++ (⟨#[9, 10, 13, 32, 32]⟩ : ByteArray)).size) = False := eq_false (Nat.not_lt.2 c33)
                                          have H' := Aside0.mk H
                                          clear H
                                          have p202 : 0 ≤ (x30_2 : Int) := of_decide_eq_true (by first | (with_reducible assumption) | assumption)
                                          have q202 : x30_2 < (l1.length : Int) := of_decide_eq_true (by first | (with_reducible assumption) | assumption)
                                          obtain ⟨ad202, e202, hx202_0⟩ := Kd.at_int HR1.out x30_2 p202 q202
                                          cases e202
                                          replace hx202_0 := (HB.out.cell (World.block_lt_of_cell? w _ hx202_0)).trans hx202_0
                                          replace p202 := eq_true p202
                                          replace q202 := eq_true q202
                                          go_wp2
                                          go_roundg kj14
                                          case measure => have := HJ4.out; have := HK2.out; have := HJ14.out; omega
                                          case rel => exact ⟨(x5_2 ++ ((rdOf ByteArray.empty l0 x30_2) ++ (⟨#[32]⟩ : ByteArray))), (x6_2 ++ ((rdOf ByteArray.empty l0 x30_2) ++ (⟨#[9, 10, 13, 32, 32]⟩ : ByteArray))), (wrap64 (x30_2 + 1)), (by first | rfl | (simp; done) | (simp [*]; done)), (by first | rfl | (simp; done) | (simp [*]; done)), (by first | rfl | (simp; done) | (simp [*]; done)), H', ⟨by have := HJ4.out; have := HK2.out; have := HJ14.out; omega⟩, ⟨by repeat (first | (with_reducible first | exact HB.out | apply below_alloc | apply pw_below_drewN | apply below_drew1) | exact HB.out)⟩⟩
                                        · rw [if_neg c33] at H
                                          exact absurd H (by simp)
                                      · rw [if_neg c32] at H
                                        exact absurd H (by simp)
                                    · rw [if_neg c31] at H
                                      exact absurd H (by simp)
                                  · rw [if_neg c30] at H
                                    exact absurd H (by simp)
                                · rw [if_neg c29] at H
                                  have c29b0 : ((Int.tmod (rd l1 x30_2) 4) == 1) = false := beq_eq_false_iff_ne.mpr c29
                                  have c29b1 : ((Int.tmod (rd l1 x30_2) 4) != 1) = true := bne_iff_ne.mpr c29
                                  by_cases c34 : (Int.tmod (rd l1 x30_2) 4) = 2
                                  · rw [if_pos c34] at H
                                    have c34b0 : ((Int.tmod (rd l1 x30_2) 4) == 2) = true := beq_iff_eq.mpr c34
                                    have c34b1 : ((Int.tmod (rd l1 x30_2) 4) != 2) = false := bne_eq_false_iff_eq.mpr c34
                                    clear c34
                                    by_cases c35 : (rdOf ByteArray.empty l0 x30_2).size + 1 ≤ 9223372036854775807
                                    · rw [if_pos c35] at H
                                      have c35b0 := eq_true c35
                                      have c35b1 : decide ((rdOf ByteArray.empty l0 x30_2).size + 1 ≤ 9223372036854775807) = true := decide_eq_true c35
                                      try have c35b2 : (9223372036854775807 < (rdOf ByteArray.empty l0 x30_2).size + 1) = False := eq_false (Nat.not_lt.2 c35)
                                      by_cases c36 : x5_2.size + ((rdOf ByteArray.empty l0 x30_2) ++ (⟨#[32]⟩ : ByteArray)).size ≤ 9223372036854775807
                                      · rw [if_pos c36] at H
                                        have c36b0 := eq_true c36
                                        have c36b1 : decide (x5_2.size + ((rdOf ByteArray.empty l0 x30_2) ++ (⟨#[32]⟩ : ByteArray)).size ≤ 9223372036854775807) = true := decide_eq_true c36
                                        try have c36b2 : (9223372036854775807 < x5_2.size + ((rdOf ByteArray.empty l0 x30_2) ++ (⟨#[32]⟩ : ByteArray)).size) = False := eq_false (Nat.not_lt.2 c36)
                                        by_cases c37 : (rdOf ByteArray.empty l0 x30_2).size + 19 ≤ 9223372036854775807
                                        · rw [if_pos c37] at H
                                          have c37b0 := eq_true c37
                                          have c37b1 : decide ((rdOf ByteArray.empty l0 x30_2).size + 19 ≤ 9223372036854775807) = true := decide_eq_true c37
                                          try have c37b2 : (9223372036854775807 < (rdOf ByteArray.empty l0 x30_2).size + 19) = False := eq_false (Nat.not_lt.2 c37)
                                          by_cases c38 : x6_2.size + ((rdOf ByteArray.empty l0 x30_2) ++ (⟨#[32, 45, 45, 105, 116, 39, 115, 32, 97, 32, 114, 101, 109, 97, 114, 107, 32, 40, 10]⟩ : ByteArray)).size ≤ 9223372036854775807
                                          · rw [if_pos c38] at H
                                            have c38b0 := eq_true c38
                                            have c38b1 : decide (x6_2.size + ((rdOf ByteArray.empty l0 x30_2) ++ (⟨#[32, 45, 45, 105, 116, 39, 115, 32, 97, 32, 114, 101, 109, 97, 114, 107, 32, 40, 10]⟩ : ByteArray)).size ≤ 9223372036854775807) = true := decide_eq_true c38
                                            try have c38b2 : (9223372036854775807 < x6_2.size + ((rdOf ByteArray.empty l0 x30_2) ++ (⟨#[32, 45, 45, 105, 116, 39, 115, 32, 97, 32, 114, 101, 109, 97, 114, 107, 32, 40, 10]⟩ : ByteArray)).size) = False := eq_false (Nat.not_lt.2 c38)
                                            have H' := Aside0.mk H
                                            clear H
                                            have p202 : 0 ≤ (x30_2 : Int) := of_decide_eq_true (by first | (with_reducible assumption) | assumption)
                                            have q202 : x30_2 < (l1.length : Int) := of_decide_eq_true (by first | (with_reducible assumption) | assumption)
                                            obtain ⟨ad202, e202, hx202_0⟩ := Kd.at_int HR1.out x30_2 p202 q202
                                            cases e202
                                            replace hx202_0 := (HB.out.cell (World.block_lt_of_cell? w _ hx202_0)).trans hx202_0
                                            replace p202 := eq_true p202
                                            replace q202 := eq_true q202
                                            go_wp2
                                            go_roundg kj14
                                            case measure => have := HJ4.out; have := HK2.out; have := HJ14.out; omega
                                            case rel => exact ⟨(x5_2 ++ ((rdOf ByteArray.empty l0 x30_2) ++ (⟨#[32]⟩ : ByteArray))), (x6_2 ++ ((rdOf ByteArray.empty l0 x30_2) ++ (⟨#[32, 45, 45, 105, 116, 39, 115, 32, 97, 32, 114, 101, 109, 97, 114, 107, 32, 40, 10]⟩ : ByteArray))), (wrap64 (x30_2 + 1)), (by first | rfl | (simp; done) | (simp [*]; done)), (by first | rfl | (simp; done) | (simp [*]; done)), (by first | rfl | (simp; done) | (simp [*]; done)), H', ⟨by have := HJ4.out; have := HK2.out; have := HJ14.out; omega⟩, ⟨by repeat (first | (with_reducible first | exact HB.out | apply below_alloc | apply pw_below_drewN | apply below_drew1) | exact HB.out)⟩⟩
                                          · rw [if_neg c38] at H
                                            exact absurd H (by simp)
                                        · rw [if_neg c37] at H
                                          exact absurd H (by simp)
                                      · rw [if_neg c36] at H
                                        exact absurd H (by simp)
                                    · rw [if_neg c35] at H
                                      exact absurd H (by simp)
                                  · rw [if_neg c34] at H
                                    have c34b0 : ((Int.tmod (rd l1 x30_2) 4) == 2) = false := beq_eq_false_iff_ne.mpr c34
                                    have c34b1 : ((Int.tmod (rd l1 x30_2) 4) != 2) = true := bne_iff_ne.mpr c34
                                    by_cases c39 : (Int.tmod (rd l1 x30_2) 4) = 3
                                    · rw [if_pos c39] at H
                                      have c39b0 : ((Int.tmod (rd l1 x30_2) 4) == 3) = true := beq_iff_eq.mpr c39
                                      have c39b1 : ((Int.tmod (rd l1 x30_2) 4) != 3) = false := bne_eq_false_iff_eq.mpr c39
                                      clear c39
                                      by_cases c40 : (rdOf ByteArray.empty l0 x30_2).size + 1 ≤ 9223372036854775807
                                      · rw [if_pos c40] at H
                                        have c40b0 := eq_true c40
                                        have c40b1 : decide ((rdOf ByteArray.empty l0 x30_2).size + 1 ≤ 9223372036854775807) = true := decide_eq_true c40
                                        try have c40b2 : (9223372036854775807 < (rdOf ByteArray.empty l0 x30_2).size + 1) = False := eq_false (Nat.not_lt.2 c40)
                                        by_cases c41 : x5_2.size + ((rdOf ByteArray.empty l0 x30_2) ++ (⟨#[32]⟩ : ByteArray)).size ≤ 9223372036854775807
                                        · rw [if_pos c41] at H
                                          have c41b0 := eq_true c41
                                          have c41b1 : decide (x5_2.size + ((rdOf ByteArray.empty l0 x30_2) ++ (⟨#[32]⟩ : ByteArray)).size ≤ 9223372036854775807) = true := decide_eq_true c41
                                          try have c41b2 : (9223372036854775807 < x5_2.size + ((rdOf ByteArray.empty l0 x30_2) ++ (⟨#[32]⟩ : ByteArray)).size) = False := eq_false (Nat.not_lt.2 c41)
                                          by_cases c42 : (rdOf ByteArray.empty l0 x30_2).size + 8 ≤ 9223372036854775807
                                          · rw [if_pos c42] at H
                                            have c42b0 := eq_true c42
                                            have c42b1 : decide ((rdOf ByteArray.empty l0 x30_2).size + 8 ≤ 9223372036854775807) = true := decide_eq_true c42
                                            try have c42b2 : (9223372036854775807 < (rdOf ByteArray.empty l0 x30_2).size + 8) = False := eq_false (Nat.not_lt.2 c42)
                                            by_cases c43 : x6_2.size + ((rdOf ByteArray.empty l0 x30_2) ++ (⟨#[10, 45, 45, 10, 45, 45, 120, 10]⟩ : ByteArray)).size ≤ 9223372036854775807
                                            · rw [if_pos c43] at H
                                              have c43b0 := eq_true c43
                                              have c43b1 : decide (x6_2.size + ((rdOf ByteArray.empty l0 x30_2) ++ (⟨#[10, 45, 45, 10, 45, 45, 120, 10]⟩ : ByteArray)).size ≤ 9223372036854775807) = true := decide_eq_true c43
                                              try have c43b2 : (9223372036854775807 < x6_2.size + ((rdOf ByteArray.empty l0 x30_2) ++ (⟨#[10, 45, 45, 10, 45, 45, 120, 10]⟩ : ByteArray)).size) = False := eq_false (Nat.not_lt.2 c43)
                                              have H' := Aside0.mk H
                                              clear H
                                              have p202 : 0 ≤ (x30_2 : Int) := of_decide_eq_true (by first | (with_reducible assumption) | assumption)
                                              have q202 : x30_2 < (l1.length : Int) := of_decide_eq_true (by first | (with_reducible assumption) | assumption)
                                              obtain ⟨ad202, e202, hx202_0⟩ := Kd.at_int HR1.out x30_2 p202 q202
                                              cases e202
                                              replace hx202_0 := (HB.out.cell (World.block_lt_of_cell? w _ hx202_0)).trans hx202_0
                                              replace p202 := eq_true p202
                                              replace q202 := eq_true q202
                                              go_wp2
                                              go_roundg kj14
                                              case measure => have := HJ4.out; have := HK2.out; have := HJ14.out; omega
                                              case rel => exact ⟨(x5_2 ++ ((rdOf ByteArray.empty l0 x30_2) ++ (⟨#[32]⟩ : ByteArray))), (x6_2 ++ ((rdOf ByteArray.empty l0 x30_2) ++ (⟨#[10, 45, 45, 10, 45, 45, 120, 10]⟩ : ByteArray))), (wrap64 (x30_2 + 1)), (by first | rfl | (simp; done) | (simp [*]; done)), (by first | rfl | (simp; done) | (simp [*]; done)), (by first | rfl | (simp; done) | (simp [*]; done)), H', ⟨by have := HJ4.out; have := HK2.out; have := HJ14.out; omega⟩, ⟨by repeat (first | (with_reducible first | exact HB.out | apply below_alloc | apply pw_below_drewN | apply below_drew1) | exact HB.out)⟩⟩
                                            · rw [if_neg c43] at H
                                              exact absurd H (by simp)
                                          · rw [if_neg c42] at H
                                            exact absurd H (by simp)
                                        · rw [if_neg c41] at H
                                          exact absurd H (by simp)
                                      · rw [if_neg c40] at H
                                        exact absurd H (by simp)
                                    · rw [if_neg c39] at H
                                      have c39b0 : ((Int.tmod (rd l1 x30_2) 4) == 3) = false := beq_eq_false_iff_ne.mpr c39
                                      have c39b1 : ((Int.tmod (rd l1 x30_2) 4) != 3) = true := bne_iff_ne.mpr c39
                                      by_cases c44 : (rdOf ByteArray.empty l0 x30_2).size + 1 ≤ 9223372036854775807
                                      · rw [if_pos c44] at H
                                        have c44b0 := eq_true c44
                                        have c44b1 : decide ((rdOf ByteArray.empty l0 x30_2).size + 1 ≤ 9223372036854775807) = true := decide_eq_true c44
                                        try have c44b2 : (9223372036854775807 < (rdOf ByteArray.empty l0 x30_2).size + 1) = False := eq_false (Nat.not_lt.2 c44)
                                        by_cases c45 : x5_2.size + ((rdOf ByteArray.empty l0 x30_2) ++ (⟨#[32]⟩ : ByteArray)).size ≤ 9223372036854775807
                                        · rw [if_pos c45] at H
                                          have c45b0 := eq_true c45
                                          have c45b1 : decide (x5_2.size + ((rdOf ByteArray.empty l0 x30_2) ++ (⟨#[32]⟩ : ByteArray)).size ≤ 9223372036854775807) = true := decide_eq_true c45
                                          try have c45b2 : (9223372036854775807 < x5_2.size + ((rdOf ByteArray.empty l0 x30_2) ++ (⟨#[32]⟩ : ByteArray)).size) = False := eq_false (Nat.not_lt.2 c45)
                                          by_cases c46 : x6_2.size + ((rdOf ByteArray.empty l0 x30_2) ++ (⟨#[32]⟩ : ByteArray)).size ≤ 9223372036854775807
                                          · rw [if_pos c46] at H
                                            have c46b0 := eq_true c46
                                            have c46b1 : decide (x6_2.size + ((rdOf ByteArray.empty l0 x30_2) ++ (⟨#[32]⟩ : ByteArray)).size ≤ 9223372036854775807) = true := decide_eq_true c46
                                            try have c46b2 : (9223372036854775807 < x6_2.size + ((rdOf ByteArray.empty l0 x30_2) ++ (⟨#[32]⟩ : ByteArray)).size) = False := eq_false (Nat.not_lt.2 c46)
                                            have H' := Aside0.mk H
                                            clear H
                                            have p202 : 0 ≤ (x30_2 : Int) := of_decide_eq_true (by first | (with_reducible assumption) | assumption)
                                            have q202 : x30_2 < (l1.length : Int) := of_decide_eq_true (by first | (with_reducible assumption) | assumption)
                                            obtain ⟨ad202, e202, hx202_0⟩ := Kd.at_int HR1.out x30_2 p202 q202
                                            cases e202
                                            replace hx202_0 := (HB.out.cell (World.block_lt_of_cell? w _ hx202_0)).trans hx202_0
                                            replace p202 := eq_true p202
                                            replace q202 := eq_true q202
                                            go_wp2
                                            go_roundg kj14
                                            case measure => have := HJ4.out; have := HK2.out; have := HJ14.out; omega
                                            case rel => exact ⟨(x5_2 ++ ((rdOf ByteArray.empty l0 x30_2) ++ (⟨#[32]⟩ : ByteArray))), (x6_2 ++ ((rdOf ByteArray.empty l0 x30_2) ++ (⟨#[32]⟩ : ByteArray))), (wrap64 (x30_2 + 1)), (by first | rfl | (simp; done) | (simp [*]; done)), (by first | rfl | (simp; done) | (simp [*]; done)), (by first | rfl | (simp; done) | (simp [*]; done)), H', ⟨by have := HJ4.out; have := HK2.out; have := HJ14.out; omega⟩, ⟨by repeat (first | (with_reducible first | exact HB.out | apply below_alloc | apply pw_below_drewN | apply below_drew1) | exact HB.out)⟩⟩
                                          · rw [if_neg c46] at H
                                            exact absurd H (by simp)
                                        · rw [if_neg c45] at H
                                          exact absurd H (by simp)
                                      · rw [if_neg c44] at H
                                        exact absurd H (by simp)
                              · rw [if_neg c28] at H
                                exact absurd H (by simp)
                            · rw [if_neg c27] at H
                              have c27b0 : decide (x30_2 < (l1.length : Int)) = false := decide_eq_false c27
                              clear c27
                              by_cases c47 : (rdOf ByteArray.empty l0 x30_2).size + 1 ≤ 9223372036854775807
                              · rw [if_pos c47] at H
                                have c47b0 := eq_true c47
                                have c47b1 : decide ((rdOf ByteArray.empty l0 x30_2).size + 1 ≤ 9223372036854775807) = true := decide_eq_true c47
                                try have c47b2 : (9223372036854775807 < (rdOf ByteArray.empty l0 x30_2).size + 1) = False := eq_false (Nat.not_lt.2 c47)
                                by_cases c48 : x5_2.size + ((rdOf ByteArray.empty l0 x30_2) ++ (⟨#[32]⟩ : ByteArray)).size ≤ 9223372036854775807
                                · rw [if_pos c48] at H
                                  have c48b0 := eq_true c48
                                  have c48b1 : decide (x5_2.size + ((rdOf ByteArray.empty l0 x30_2) ++ (⟨#[32]⟩ : ByteArray)).size ≤ 9223372036854775807) = true := decide_eq_true c48
                                  try have c48b2 : (9223372036854775807 < x5_2.size + ((rdOf ByteArray.empty l0 x30_2) ++ (⟨#[32]⟩ : ByteArray)).size) = False := eq_false (Nat.not_lt.2 c48)
                                  by_cases c49 : x6_2.size + ((rdOf ByteArray.empty l0 x30_2) ++ (⟨#[32]⟩ : ByteArray)).size ≤ 9223372036854775807
                                  · rw [if_pos c49] at H
                                    have c49b0 := eq_true c49
                                    have c49b1 : decide (x6_2.size + ((rdOf ByteArray.empty l0 x30_2) ++ (⟨#[32]⟩ : ByteArray)).size ≤ 9223372036854775807) = true := decide_eq_true c49
                                    try have c49b2 : (9223372036854775807 < x6_2.size + ((rdOf ByteArray.empty l0 x30_2) ++ (⟨#[32]⟩ : ByteArray)).size) = False := eq_false (Nat.not_lt.2 c49)
                                    have H' := Aside0.mk H
                                    clear H
                                    go_wp2
                                    go_roundg kj14
                                    case measure => have := HJ4.out; have := HK2.out; have := HJ14.out; omega
                                    case rel => exact ⟨(x5_2 ++ ((rdOf ByteArray.empty l0 x30_2) ++ (⟨#[32]⟩ : ByteArray))), (x6_2 ++ ((rdOf ByteArray.empty l0 x30_2) ++ (⟨#[32]⟩ : ByteArray))), (wrap64 (x30_2 + 1)), (by first | rfl | (simp; done) | (simp [*]; done)), (by first | rfl | (simp; done) | (simp [*]; done)), (by first | rfl | (simp; done) | (simp [*]; done)), H', ⟨by have := HJ4.out; have := HK2.out; have := HJ14.out; omega⟩, ⟨by repeat (first | (with_reducible first | exact HB.out | apply below_alloc | apply pw_below_drewN | apply below_drew1) | exact HB.out)⟩⟩
                                  · rw [if_neg c49] at H
                                    exact absurd H (by simp)
                                · rw [if_neg c48] at H
                                  exact absurd H (by simp)
                              · rw [if_neg c47] at H
                                exact absurd H (by simp)
                  · rw [if_neg c11] at H
                    exact absurd H (by simp)
                · rw [if_neg c10] at H
                  exact absurd H (by simp)
              · rw [if_neg c9] at H
                have c9b0 : decide (x30_2 < (l0.length : Int)) = false := decide_eq_false c9
                clear c9
                replace H := Option.bind_eq_some_iff.mp H
                obtain ⟨⟨t183, t184⟩, A500, H⟩ := H
                replace H : ((lex_Tokens.f x6_2).bind fun bt187 => (if t184 = 0 then (if bt187.2 = 0 then (if (t183.length : Int) = (wrap64 ((l0.length : Int) + 1)) then ((vidimusref16_Same.f k2 t183 bt187.1).bind fun t191 => (some t191)) else (some false)) else (some false)) else (some false))) = some r := H
                have A50 := Aside0.mk A500
                clear A500
                replace H := Option.bind_eq_some_iff.mp H
                obtain ⟨⟨t187, t188⟩, A510, H⟩ := H
                replace H : (if t184 = 0 then (if t188 = 0 then (if (t183.length : Int) = (wrap64 ((l0.length : Int) + 1)) then ((vidimusref16_Same.f k2 t183 t187).bind fun t191 => (some t191)) else (some false)) else (some false)) else (some false)) = some r := H
                have A51 := Aside0.mk A510
                clear A510
                by_cases c52 : t184 = 0
                · rw [if_pos c52] at H
                  have c52b0 : (t184 == 0) = true := beq_iff_eq.mpr c52
                  have c52b1 : (t184 != 0) = false := bne_eq_false_iff_eq.mpr c52
                  clear c52
                  by_cases c53 : t188 = 0
                  · rw [if_pos c53] at H
                    have c53b0 : (t188 == 0) = true := beq_iff_eq.mpr c53
                    have c53b1 : (t188 != 0) = false := bne_eq_false_iff_eq.mpr c53
                    clear c53
                    by_cases c54 : (t183.length : Int) = (wrap64 ((l0.length : Int) + 1))
                    · rw [if_pos c54] at H
                      have c54b0 : ((t183.length : Int) == (wrap64 ((l0.length : Int) + 1))) = true := beq_iff_eq.mpr c54
                      have c54b1 : ((t183.length : Int) != (wrap64 ((l0.length : Int) + 1))) = false := bne_eq_false_iff_eq.mpr c54
                      clear c54
                      replace H := Option.bind_eq_some_iff.mp H
                      obtain ⟨t191, A550, H⟩ := H
                      replace H : (some t191) = some r := H
                      have A55 := Aside0.mk A550
                      clear A550
                      obtain rfl := Option.some.inj H
                      go_wp2_with (first | ((with_reducible refine gate_callee (f := 16) rfl ?_); refine goesL_ (some 91) rfl rfl Tryz.func16 (by kernel_rfl) rfl #[.string x5_2] rfl (by (try simp only [List.map_toArray, List.map_cons, List.map_nil]); first | done | rfl | (simp only [List.length_drop, List.length_take]; rfl)) ?_; (with_reducible refine (lex_Tokens.calls x5_2 t183 t184 _ A50.out (GV.below hG (by repeat (first | (with_reducible first | exact HB.out | apply below_alloc | apply pw_below_drewN | apply below_drew1) | exact HB.out)))).mono ?_); rintro e w56 ⟨v185, rfl, ho0, hb⟩; refine ⟨_, rfl, ?_⟩; have n0_ := Aside0.mk (Kd.R_lower ho0 (below_size (by repeat (first | (with_reducible first | exact HB.out | apply below_alloc | apply pw_below_drewN | apply below_drew1) | exact HB.out)))); have n1_ := Aside0.mk (below_step (by repeat (first | (with_reducible first | exact HB.out | apply below_alloc | apply pw_below_drewN | apply below_drew1) | exact HB.out)) hb); clear HB; have HO186 := n0_; have HB := n1_; clear n0_ n1_; (try clear hb); (try clear hb2); (try clear hk); (try clear hi); (try clear ho0)) | ((with_reducible refine gate_callee (f := 16) rfl ?_); refine goesL_ (some 96) rfl rfl Tryz.func16 (by kernel_rfl) rfl #[.string x6_2] rfl (by (try simp only [List.map_toArray, List.map_cons, List.map_nil]); first | done | rfl | (simp only [List.length_drop, List.length_take]; rfl)) ?_; (with_reducible refine (lex_Tokens.calls x6_2 t187 t188 _ A51.out (GV.below hG (by repeat (first | (with_reducible first | exact HB.out | apply below_alloc | apply pw_below_drewN | apply below_drew1) | exact HB.out)))).mono ?_); rintro e w57 ⟨v189, rfl, ho0, hb⟩; refine ⟨_, rfl, ?_⟩; have n0_ := Aside0.mk (Kd.R_elder' (by (with_reducible repeat (first | apply Kd.R_alloc | apply Kd.R_drewN | apply Kd.R_drew)); exact HO186.out) (Kd.R_base ho0) hb); have n1_ := Aside0.mk (Kd.R_lower (Kd.R_new' ho0 (Kd.R_lt (by (with_reducible repeat (first | apply Kd.R_alloc | apply Kd.R_drewN | apply Kd.R_drew)); exact HO186.out))) (below_size (by repeat (first | (with_reducible first | exact HB.out | apply below_alloc | apply pw_below_drewN | apply below_drew1) | exact HB.out)))); have n2_ := Aside0.mk (below_step (by repeat (first | (with_reducible first | exact HB.out | apply below_alloc | apply pw_below_drewN | apply below_drew1) | exact HB.out)) hb); clear HO186; clear HB; have HO186 := n0_; have HO190 := n1_; have HB := n2_; clear n0_ n1_ n2_; (try clear hb); (try clear hb2); (try clear hk); (try clear hi); (try clear ho0); obtain ⟨Ao58, co58, eo58⟩ := Kd.R_slice HO186.out; subst eo58; obtain ⟨Ao59, co59, eo59⟩ := Kd.R_slice HO190.out; subst eo59) | (go_at_call 18; (with_reducible refine (vidimusref16_Same.calls k2 _ _ t183 _ _ t187 t191 _ ?side1 ?side2 ?side3 ?side4 A55.out).mono ?_); (case side1 => repeat (first | exact (Kd.R_reads' HO186.out).2.2 | (with_reducible refine Kd.C_alloc ?_ _) | (with_reducible refine Kd.C_drewN ?_ _) | (with_reducible refine Kd.C_drew ?_))); (case side2 => exact (Kd.R_reads' HO186.out).2.1); (case side3 => repeat (first | exact (Kd.R_reads' HO190.out).2.2 | (with_reducible refine Kd.C_alloc ?_ _) | (with_reducible refine Kd.C_drewN ?_ _) | (with_reducible refine Kd.C_drew ?_))); (case side4 => exact (Kd.R_reads' HO190.out).2.1); rintro e w' ⟨rfl, ⟨nd, rfl⟩⟩))
                      go_ret
                      exact ⟨by first | rfl | (simp [errW_none, errW_some] <;> rfl) | (simp [*, errW_none, errW_some] <;> rfl), by repeat (first | (with_reducible first | exact HB.out | apply below_alloc | apply pw_below_drewN | apply below_drew1) | exact HB.out)⟩
                    · rw [if_neg c54] at H
                      have c54b0 : ((t183.length : Int) == (wrap64 ((l0.length : Int) + 1))) = false := beq_eq_false_iff_ne.mpr c54
                      have c54b1 : ((t183.length : Int) != (wrap64 ((l0.length : Int) + 1))) = true := bne_iff_ne.mpr c54
                      obtain rfl := Option.some.inj H
                      go_wp2_with (first | ((with_reducible refine gate_callee (f := 16) rfl ?_); refine goesL_ (some 91) rfl rfl Tryz.func16 (by kernel_rfl) rfl #[.string x5_2] rfl (by (try simp only [List.map_toArray, List.map_cons, List.map_nil]); first | done | rfl | (simp only [List.length_drop, List.length_take]; rfl)) ?_; (with_reducible refine (lex_Tokens.calls x5_2 t183 t184 _ A50.out (GV.below hG (by repeat (first | (with_reducible first | exact HB.out | apply below_alloc | apply pw_below_drewN | apply below_drew1) | exact HB.out)))).mono ?_); rintro e w60 ⟨v185, rfl, ho0, hb⟩; refine ⟨_, rfl, ?_⟩; have n0_ := Aside0.mk (Kd.R_lower ho0 (below_size (by repeat (first | (with_reducible first | exact HB.out | apply below_alloc | apply pw_below_drewN | apply below_drew1) | exact HB.out)))); have n1_ := Aside0.mk (below_step (by repeat (first | (with_reducible first | exact HB.out | apply below_alloc | apply pw_below_drewN | apply below_drew1) | exact HB.out)) hb); clear HB; have HO186 := n0_; have HB := n1_; clear n0_ n1_; (try clear hb); (try clear hb2); (try clear hk); (try clear hi); (try clear ho0)) | ((with_reducible refine gate_callee (f := 16) rfl ?_); refine goesL_ (some 96) rfl rfl Tryz.func16 (by kernel_rfl) rfl #[.string x6_2] rfl (by (try simp only [List.map_toArray, List.map_cons, List.map_nil]); first | done | rfl | (simp only [List.length_drop, List.length_take]; rfl)) ?_; (with_reducible refine (lex_Tokens.calls x6_2 t187 t188 _ A51.out (GV.below hG (by repeat (first | (with_reducible first | exact HB.out | apply below_alloc | apply pw_below_drewN | apply below_drew1) | exact HB.out)))).mono ?_); rintro e w61 ⟨v189, rfl, ho0, hb⟩; refine ⟨_, rfl, ?_⟩; have n0_ := Aside0.mk (Kd.R_elder' (by (with_reducible repeat (first | apply Kd.R_alloc | apply Kd.R_drewN | apply Kd.R_drew)); exact HO186.out) (Kd.R_base ho0) hb); have n1_ := Aside0.mk (Kd.R_lower (Kd.R_new' ho0 (Kd.R_lt (by (with_reducible repeat (first | apply Kd.R_alloc | apply Kd.R_drewN | apply Kd.R_drew)); exact HO186.out))) (below_size (by repeat (first | (with_reducible first | exact HB.out | apply below_alloc | apply pw_below_drewN | apply below_drew1) | exact HB.out)))); have n2_ := Aside0.mk (below_step (by repeat (first | (with_reducible first | exact HB.out | apply below_alloc | apply pw_below_drewN | apply below_drew1) | exact HB.out)) hb); clear HO186; clear HB; have HO186 := n0_; have HO190 := n1_; have HB := n2_; clear n0_ n1_ n2_; (try clear hb); (try clear hb2); (try clear hk); (try clear hi); (try clear ho0); obtain ⟨Ao62, co62, eo62⟩ := Kd.R_slice HO186.out; subst eo62))
                      go_ret
                      exact ⟨by first | rfl | (simp [errW_none, errW_some] <;> rfl) | (simp [*, errW_none, errW_some] <;> rfl), by repeat (first | (with_reducible first | exact HB.out | apply below_alloc | apply pw_below_drewN | apply below_drew1) | exact HB.out)⟩
                  · rw [if_neg c53] at H
                    have c53b0 : (t188 == 0) = false := beq_eq_false_iff_ne.mpr c53
                    have c53b1 : (t188 != 0) = true := bne_iff_ne.mpr c53
                    obtain rfl := Option.some.inj H
                    go_wp2_with (first | ((with_reducible refine gate_callee (f := 16) rfl ?_); refine goesL_ (some 91) rfl rfl Tryz.func16 (by kernel_rfl) rfl #[.string x5_2] rfl (by (try simp only [List.map_toArray, List.map_cons, List.map_nil]); first | done | rfl | (simp only [List.length_drop, List.length_take]; rfl)) ?_; (with_reducible refine (lex_Tokens.calls x5_2 t183 t184 _ A50.out (GV.below hG (by repeat (first | (with_reducible first | exact HB.out | apply below_alloc | apply pw_below_drewN | apply below_drew1) | exact HB.out)))).mono ?_); rintro e w63 ⟨v185, rfl, ho0, hb⟩; refine ⟨_, rfl, ?_⟩; have n0_ := Aside0.mk (Kd.R_lower ho0 (below_size (by repeat (first | (with_reducible first | exact HB.out | apply below_alloc | apply pw_below_drewN | apply below_drew1) | exact HB.out)))); have n1_ := Aside0.mk (below_step (by repeat (first | (with_reducible first | exact HB.out | apply below_alloc | apply pw_below_drewN | apply below_drew1) | exact HB.out)) hb); clear HB; have HO186 := n0_; have HB := n1_; clear n0_ n1_; (try clear hb); (try clear hb2); (try clear hk); (try clear hi); (try clear ho0)) | ((with_reducible refine gate_callee (f := 16) rfl ?_); refine goesL_ (some 96) rfl rfl Tryz.func16 (by kernel_rfl) rfl #[.string x6_2] rfl (by (try simp only [List.map_toArray, List.map_cons, List.map_nil]); first | done | rfl | (simp only [List.length_drop, List.length_take]; rfl)) ?_; (with_reducible refine (lex_Tokens.calls x6_2 t187 t188 _ A51.out (GV.below hG (by repeat (first | (with_reducible first | exact HB.out | apply below_alloc | apply pw_below_drewN | apply below_drew1) | exact HB.out)))).mono ?_); rintro e w64 ⟨v189, rfl, ho0, hb⟩; refine ⟨_, rfl, ?_⟩; have n0_ := Aside0.mk (Kd.R_elder' (by (with_reducible repeat (first | apply Kd.R_alloc | apply Kd.R_drewN | apply Kd.R_drew)); exact HO186.out) (Kd.R_base ho0) hb); have n1_ := Aside0.mk (Kd.R_lower (Kd.R_new' ho0 (Kd.R_lt (by (with_reducible repeat (first | apply Kd.R_alloc | apply Kd.R_drewN | apply Kd.R_drew)); exact HO186.out))) (below_size (by repeat (first | (with_reducible first | exact HB.out | apply below_alloc | apply pw_below_drewN | apply below_drew1) | exact HB.out)))); have n2_ := Aside0.mk (below_step (by repeat (first | (with_reducible first | exact HB.out | apply below_alloc | apply pw_below_drewN | apply below_drew1) | exact HB.out)) hb); clear HO186; clear HB; have HO186 := n0_; have HO190 := n1_; have HB := n2_; clear n0_ n1_ n2_; (try clear hb); (try clear hb2); (try clear hk); (try clear hi); (try clear ho0)))
                    go_ret
                    exact ⟨by first | rfl | (simp [errW_none, errW_some] <;> rfl) | (simp [*, errW_none, errW_some] <;> rfl), by repeat (first | (with_reducible first | exact HB.out | apply below_alloc | apply pw_below_drewN | apply below_drew1) | exact HB.out)⟩
                · rw [if_neg c52] at H
                  have c52b0 : (t184 == 0) = false := beq_eq_false_iff_ne.mpr c52
                  have c52b1 : (t184 != 0) = true := bne_iff_ne.mpr c52
                  obtain rfl := Option.some.inj H
                  go_wp2_with (first | ((with_reducible refine gate_callee (f := 16) rfl ?_); refine goesL_ (some 91) rfl rfl Tryz.func16 (by kernel_rfl) rfl #[.string x5_2] rfl (by (try simp only [List.map_toArray, List.map_cons, List.map_nil]); first | done | rfl | (simp only [List.length_drop, List.length_take]; rfl)) ?_; (with_reducible refine (lex_Tokens.calls x5_2 t183 t184 _ A50.out (GV.below hG (by repeat (first | (with_reducible first | exact HB.out | apply below_alloc | apply pw_below_drewN | apply below_drew1) | exact HB.out)))).mono ?_); rintro e w65 ⟨v185, rfl, ho0, hb⟩; refine ⟨_, rfl, ?_⟩; have n0_ := Aside0.mk (Kd.R_lower ho0 (below_size (by repeat (first | (with_reducible first | exact HB.out | apply below_alloc | apply pw_below_drewN | apply below_drew1) | exact HB.out)))); have n1_ := Aside0.mk (below_step (by repeat (first | (with_reducible first | exact HB.out | apply below_alloc | apply pw_below_drewN | apply below_drew1) | exact HB.out)) hb); clear HB; have HO186 := n0_; have HB := n1_; clear n0_ n1_; (try clear hb); (try clear hb2); (try clear hk); (try clear hi); (try clear ho0)) | ((with_reducible refine gate_callee (f := 16) rfl ?_); refine goesL_ (some 96) rfl rfl Tryz.func16 (by kernel_rfl) rfl #[.string x6_2] rfl (by (try simp only [List.map_toArray, List.map_cons, List.map_nil]); first | done | rfl | (simp only [List.length_drop, List.length_take]; rfl)) ?_; (with_reducible refine (lex_Tokens.calls x6_2 t187 t188 _ A51.out (GV.below hG (by repeat (first | (with_reducible first | exact HB.out | apply below_alloc | apply pw_below_drewN | apply below_drew1) | exact HB.out)))).mono ?_); rintro e w66 ⟨v189, rfl, ho0, hb⟩; refine ⟨_, rfl, ?_⟩; have n0_ := Aside0.mk (Kd.R_elder' (by (with_reducible repeat (first | apply Kd.R_alloc | apply Kd.R_drewN | apply Kd.R_drew)); exact HO186.out) (Kd.R_base ho0) hb); have n1_ := Aside0.mk (Kd.R_lower (Kd.R_new' ho0 (Kd.R_lt (by (with_reducible repeat (first | apply Kd.R_alloc | apply Kd.R_drewN | apply Kd.R_drew)); exact HO186.out))) (below_size (by repeat (first | (with_reducible first | exact HB.out | apply below_alloc | apply pw_below_drewN | apply below_drew1) | exact HB.out)))); have n2_ := Aside0.mk (below_step (by repeat (first | (with_reducible first | exact HB.out | apply below_alloc | apply pw_below_drewN | apply below_drew1) | exact HB.out)) hb); clear HO186; clear HB; have HO186 := n0_; have HO190 := n1_; have HB := n2_; clear n0_ n1_ n2_; (try clear hb); (try clear hb2); (try clear hk); (try clear hi); (try clear ho0)))
                  go_ret
                  exact ⟨by first | rfl | (simp [errW_none, errW_some] <;> rfl) | (simp [*, errW_none, errW_some] <;> rfl), by repeat (first | (with_reducible first | exact HB.out | apply below_alloc | apply pw_below_drewN | apply below_drew1) | exact HB.out)⟩
  · replace c4 := Bool.eq_false_iff.mpr c4
    subst c4
    have H1 : (some false) = some r := by rw [if_neg (show ¬ (false = true) by decide)] at H; exact H
    clear H
    have H := H1
    clear H1
    obtain rfl := Option.some.inj H
    go_enter Tryz.func5, Tryz.ntmps5
    go_wp2_with (first | ((with_reducible refine gate_callee (f := 15) rfl ?_); refine goesL_ (some 18) rfl rfl Tryz.func15 (by kernel_rfl) rfl #[] rfl (by (try simp only [List.map_toArray, List.map_cons, List.map_nil]); first | done | rfl | (simp only [List.length_drop, List.length_take]; rfl)) ?_; (with_reducible refine (vidimuslaw16_awake.calls k  false _ A3.out (GV.below hG (by repeat (first | (with_reducible first | exact HB.out | apply below_alloc | apply pw_below_drewN | apply below_drew1) | exact HB.out)))).mono ?_); rintro e w67 ⟨rfl, hb⟩; refine ⟨_, rfl, ?_⟩; have n0_ := Aside0.mk (below_step (by repeat (first | (with_reducible first | exact HB.out | apply below_alloc | apply pw_below_drewN | apply below_drew1) | exact HB.out)) hb); clear HB; have HB := n0_; clear n0_; (try clear hb); (try clear hb2); (try clear hk); (try clear hi)))
    go_ret
    exact ⟨by first | rfl | (simp [errW_none, errW_some] <;> rfl) | (simp [*, errW_none, errW_some] <;> rfl), by repeat (first | (with_reducible first | exact HB.out | apply below_alloc | apply pw_below_drewN | apply below_drew1) | exact HB.out)⟩


end Go.Proofs.YtcgdncpioafbdaaGreatDoor.Q

/- The parser: is an expression too deep; slices.ContainsFunc at that. -/
import Derived.Test.YtcgdncpioafbdaaGreatDoorPq
import Derived.Test.YtcgdncpioafbdaaGreatDoorPd
namespace Go.Proofs.YtcgdncpioafbdaaGreatDoor.Q
open Go Go.RowKit Go.Proofs.YtcgdncpioafbdaaGreatDoorW.PrintWords

def deepB (x : S43) : Bool := decide (30 < dep x)
set_option maxHeartbeats 1000000 in
set_option maxRecDepth 100000 in
theorem deep_out {w : World} {x : S43} {A : Option Addr} {c : Nat} (hc : x.f3.length ≤ c) (hC : Kd.C k43 w A x.f3.length x.f3) (hf : fu x < 4611686018427387904) : Calls Tryz.prog 181 #[.agg (cells43 x A c).toArray] w fun e w' => e = .returned (.bool (deepB x)) ∧ Below w.heap.size w w' := by
  have HC := Aside0.mk hC
  have HD := Aside0.mk (Depth_is x hf (fu x) (Nat.le_refl _))
  have hd : decide (30 < (dep x : Int)) = deepB x := by unfold deepB; rw [decide_eq_decide]; omega
  clear hC
  unfold cells43
  go_enter Tryz.func181, Tryz.ntmps181
  go_wp2_with (first | (go_at_call 43; refine (parse_Depth.calls _ _ _ _ _ _ A c x.f3 _ _ (Kd.C_below HC.out (below_alloc (Below.refl _ _) _)) hc HD.out).mono ?_; rintro e1 w1 ⟨rfl, hb⟩; have HB := Aside0.mk hb; clear hb))
  go_ret
  exact ⟨rfl, below_step (below_alloc (Below.refl _ _) _) HB.out⟩

set_option maxHeartbeats 2000000 in
set_option maxRecDepth 100000 in
theorem index_out {w : World} {A : Option Addr} {c : Nat} {l : List S43} (hc : l.length ≤ c) (hC : Kd.C k43 w A l.length l) (hl : l.length < 4611686018427387904) (hf : ∀ x ∈ l, fu x < 4611686018427387904) : Calls Tryz.prog 225 #[.slice A l.length c, .func (.func 181) #[] #[]] w fun e w' => ∃ i : Int, e = .returned (.int .i64 i) ∧ decide (0 ≤ i) = l.any deepB ∧ Below w.heap.size w w' := by
  have HC := Aside0.mk hC
  have HF := Aside0.mk hf
  have HL := Aside0.mk hl
  clear hC hf hl
  go_enter Tryz.func225, Tryz.ntmps225
  go_wp2
  go_loopg [8] l.length (fun kq v8 w' => ∃ j : Nat, v8 = .int .i64 (j : Int) ∧ Aside0 (j + kq = l.length) ∧ Aside0 ((l.take j).any deepB = false) ∧ Aside0 (Below w.heap.size w w'))
  case atStart => exact ⟨0, rfl, ⟨by omega⟩, ⟨by simp⟩, ⟨Below.refl _ _⟩⟩
  case round =>
    obtain ⟨j, rfl, HJ, HN, HB⟩ := hrel
    have hjl := HJ.out
    have hll := HL.out
    cases gk with
    | zero =>
      have d0 : decide ((j : Int) < (l.length : Int)) = false := decide_eq_false (by omega)
      have d1 : decide (j < l.length) = false := decide_eq_false (by omega)
      clear hjl hll
      go_wp2
      go_ret
      refine ⟨_, rfl, ?_, HB.out⟩
      have h1 := HN.out
      rw [List.take_of_length_le (by have := HJ.out; omega)] at h1
      rw [h1]
      rfl
    | succ k1 =>
      have d0 : decide ((j : Int) < (l.length : Int)) = true := decide_eq_true (by omega)
      have d1 : decide (j < l.length) = true := decide_eq_true (by omega)
      have p1 : 0 ≤ (j : Int) := by omega
      have q1 : (j : Int) < (l.length : Int) := by omega
      obtain ⟨ad, A5, c5, e5, x0, x1, x2, x3, x4, x5, hl5, hi5⟩ := at_T43 (Kd.C_below HC.out HB.out) (j : Int) p1 q1
      cases e5
      have hjn : j < l.length := by omega
      have hrd : rd_T43 l (j : Int) = l[j] := by
        unfold rd_T43
        rw [Int.toNat_natCast, List.getD_eq_getElem?_getD, List.getElem?_eq_getElem hjn]
        rfl
      obtain ⟨x, hx⟩ : ∃ x, rd_T43 l (j : Int) = x := ⟨_, rfl⟩
      rw [hx] at x0 x1 x2 x3 x4 x5 hl5 hi5
      simp only [Int.toNat_natCast] at x0 x1 x2 x3 x4 x5
      have HI := Aside0.mk hi5
      have HX := Aside0.mk (hx.symm.trans hrd)
      have hw1 : wrap64 ((j : Int) + 1) = ((j + 1 : Nat) : Int) := by unfold wrap64; omega
      have HFX := Aside0.mk (HF.out x (by rw [HX.out]; exact List.getElem_mem _))
      have HTK := Aside0.mk (show (l.take (j + 1)).any deepB = deepB x by rw [List.take_add_one, List.any_append, HN.out, List.getElem?_eq_getElem hjn, ← HX.out]; simp)
      replace p1 := eq_true p1
      replace q1 := eq_true q1
      clear hi5 hx hrd hjl hll
      cases hd : deepB x with
      | true =>
        have HD := Aside0.mk hd
        clear hd
        go_wp2_with (first | (go_at_call 181; refine (deep_out (x := x) (A := A5) (c := c5) hl5 HI.out HFX.out).mono ?_; rintro e1 w1 ⟨rfl, hb⟩; have HB1 := Aside0.mk hb; clear hb; rw [HD.out]))
        go_ret
        refine ⟨_, rfl, ?_, below_step HB.out HB1.out⟩
        have h1 : l.any deepB = true := by
          have h2 := HTK.out
          rw [HD.out] at h2
          rw [← List.take_append_drop (j + 1) l, List.any_append, h2]
          rfl
        rw [h1]
        exact decide_eq_true (by omega)
      | false =>
        have HD := Aside0.mk hd
        clear hd
        go_wp2_with (first | (go_at_call 181; refine (deep_out (x := x) (A := A5) (c := c5) hl5 HI.out HFX.out).mono ?_; rintro e1 w1 ⟨rfl, hb⟩; have HB1 := Aside0.mk hb; clear hb; rw [HD.out]))
        go_roundg k1
        case measure => omega
        case rel => exact ⟨j + 1, by rw [hw1], ⟨by have := HJ.out; omega⟩, ⟨by rw [HTK.out, HD.out]⟩, ⟨below_step HB.out HB1.out⟩⟩

set_option maxHeartbeats 1000000 in
set_option maxRecDepth 100000 in
theorem contains_out {w : World} {A : Option Addr} {c : Nat} {l : List S43} (hc : l.length ≤ c) (hC : Kd.C k43 w A l.length l) (hl : l.length < 4611686018427387904) (hf : ∀ x ∈ l, fu x < 4611686018427387904) : Calls Tryz.prog 146 #[.slice A l.length c, .func (.func 181) #[] #[]] w fun e w' => e = .returned (.bool (l.any deepB)) ∧ Below w.heap.size w w' := by
  have HC := Aside0.mk hC
  have HF := Aside0.mk hf
  clear hC hf
  go_enter Tryz.func146, Tryz.ntmps146
  go_wp2_with (first | (go_at_call 225; refine (index_out hc HC.out hl HF.out).mono ?_; rintro e1 w1 ⟨i, rfl, hd, hb⟩; have HD := Aside0.mk hd; have HB := Aside0.mk hb; clear hd hb))
  go_ret
  refine ⟨?_, HB.out⟩
  rw [← HD.out]
  rfl
end Go.Proofs.YtcgdncpioafbdaaGreatDoor.Q

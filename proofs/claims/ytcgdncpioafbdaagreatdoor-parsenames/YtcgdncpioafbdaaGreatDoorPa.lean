/- The document's comparison of expressions, at two that read alike. -/
import Derived.Test.YtcgdncpioafbdaaGreatDoorPz
import Derived.Test.YtcgdncpioafbdaaGreatDoorQeq0
namespace Go.Proofs.YtcgdncpioafbdaaGreatDoor.Q
open Go Go.RowKit Go.Proofs.YtcgdncpioafbdaaGreatDoorW.PrintWords Go.Proofs.YtcgdncpioafbdaaGreatDoorW.PrintLast Go.Proofs.YtcgdncpioafbdaaGreatDoorW.PrintMore

theorem eqA40 (d : Nat) (w : World) (x0 y0 x1 y1 : Int) (x2 y2 : ByteArray) :
    (Op.equalIn (d + 2) 40 (.agg #[.int .i64 x0, .int .i64 x1, .string x2]) (.agg #[.int .i64 y0, .int .i64 y1, .string y2])).run Tryz.prog w = .ok (x0 == y0 && (x1 == y1 && (x2.toList == y2.toList))) w := by
  refine eqA_of Tryz.underlying40 (by kernel_rfl) ?_
  refine eqf_cons (by rfl) (by go_simp; rfl) (by go_simp; rfl) (by go_simp) ?_
  refine eqf_cons (by rfl) (by go_simp; rfl) (by go_simp; rfl) (by go_simp) ?_
  exact eqf_last (by rfl) (by go_simp; rfl) (by go_simp; rfl) (by go_simp)
theorem eqA128 (d : Nat) (w : World) (x0 y0 : ByteArray) (x1 y1 : Int) (x2 y2 : Int) :
    (Op.equalIn (d + 2) 128 (.agg #[.string x0, .int .i64 x1, .int .i64 x2]) (.agg #[.string y0, .int .i64 y1, .int .i64 y2])).run Tryz.prog w = .ok (x0.toList == y0.toList && (x1 == y1 && (x2 == y2))) w := by
  refine eqA_of Tryz.underlying128 (by kernel_rfl) ?_
  refine eqf_cons (by rfl) (by go_simp; rfl) (by go_simp; rfl) (by go_simp) ?_
  refine eqf_cons (by rfl) (by go_simp; rfl) (by go_simp; rfl) (by go_simp) ?_
  exact eqf_last (by rfl) (by go_simp; rfl) (by go_simp; rfl) (by go_simp)
attribute [local go_sem high] eqA40 eqA128

def SameListAt (n : Nat) : Prop := ∀ (l : List S43) (w : World) (A A' : Option Addr) (c c' : Nat), fus l ≤ n → l.length ≤ c → l.length ≤ c' → Kd.C k43 w A l.length l → Kd.C k43 w A' l.length l → Calls Tryz.prog 108 #[.slice A l.length c, .slice A' l.length c'] w fun e w' => e = .returned (.bool true) ∧ Below w.heap.size w w'
def SameExprAt (n : Nat) : Prop := ∀ (x : S43) (w : World) (A A' : Option Addr) (c c' : Nat), fu x ≤ n → x.f3.length ≤ c → x.f3.length ≤ c' → Kd.C k43 w A x.f3.length x.f3 → Kd.C k43 w A' x.f3.length x.f3 → Calls Tryz.prog 47 #[.agg (cells43 x A c).toArray, .agg (cells43 x A' c').toArray] w fun e w' => e = .returned (.bool true) ∧ Below w.heap.size w w'

set_option maxHeartbeats 2000000 in
set_option maxRecDepth 100000 in
theorem sameExpr_step (n : Nat) (ih : SameListAt n) : SameExprAt (n + 1) := by
  intro x w A A' c c' hx hc hc' hC hC'
  have HC := Aside0.mk hC
  have HC' := Aside0.mk hC'
  have hx2 : fus x.f3 ≤ n := by have := fu_eq x; omega
  clear hC hC'
  unfold cells43
  go_enter Tryz.func47, Tryz.ntmps47
  go_upto_region 1 with (fail)
  have hB := below_alloc (below_alloc (Below.refl w.heap.size w) (.cells #[.string x.f0, .int .i64 x.f1.f0, .int .i64 x.f1.f1, .string x.f1.f2, .string x.f2, .slice A x.f3.length c] 43 (0, 0))) (.cells #[.string x.f0, .int .i64 x.f1.f0, .int .i64 x.f1.f1, .string x.f1.f2, .string x.f2, .slice A' x.f3.length c'] 43 (0, 0))
  have B1 := Aside0.mk (blk_alloc (new_blk (W := w) (.cells #[.string x.f0, .int .i64 x.f1.f0, .int .i64 x.f1.f1, .string x.f1.f2, .string x.f2, .slice A x.f3.length c] 43 (0, 0)) rfl) (.cells #[.string x.f0, .int .i64 x.f1.f0, .int .i64 x.f1.f1, .string x.f1.f2, .string x.f2, .slice A' x.f3.length c'] 43 (0, 0)))
  have B2 := Aside0.mk (new_blk (W := w.alloc (.cells #[.string x.f0, .int .i64 x.f1.f0, .int .i64 x.f1.f1, .string x.f1.f2, .string x.f2, .slice A x.f3.length c] 43 (0, 0))) (b := w.heap.size + 1) (.cells #[.string x.f0, .int .i64 x.f1.f0, .int .i64 x.f1.f1, .string x.f1.f2, .string x.f2, .slice A' x.f3.length c'] 43 (0, 0)) (by simp))
  have HB := Aside0.mk hB
  clear hB
  generalize hb2 : w.heap.size + 1 = b2 at B2 ⊢
  generalize hb1 : w.heap.size = b1 at B1 ⊢
  generalize hW : (w.alloc (.cells #[.string x.f0, .int .i64 x.f1.f0, .int .i64 x.f1.f1, .string x.f1.f2, .string x.f2, .slice A x.f3.length c] 43 (0, 0))).alloc (.cells #[.string x.f0, .int .i64 x.f1.f0, .int .i64 x.f1.f1, .string x.f1.f2, .string x.f2, .slice A' x.f3.length c'] 43 (0, 0)) = W at B1 B2 HB ⊢
  clear hW hb1 hb2
  have ac0 : W.cell? ⟨b1, 0, none⟩ = some (.string x.f0) := (blk_cell B1.out 0).trans rfl
  have ac1 : W.cell? ⟨b1, 1, none⟩ = some (.int .i64 x.f1.f0) := (blk_cell B1.out 1).trans rfl
  have ac2 : W.cell? ⟨b1, 2, none⟩ = some (.int .i64 x.f1.f1) := (blk_cell B1.out 2).trans rfl
  have ac3 : W.cell? ⟨b1, 3, none⟩ = some (.string x.f1.f2) := (blk_cell B1.out 3).trans rfl
  have ac4 : W.cell? ⟨b1, 4, none⟩ = some (.string x.f2) := (blk_cell B1.out 4).trans rfl
  have ac5 : W.cell? ⟨b1, 5, none⟩ = some (.slice A x.f3.length c) := (blk_cell B1.out 5).trans rfl
  have bc0 : W.cell? ⟨b2, 0, none⟩ = some (.string x.f0) := (blk_cell B2.out 0).trans rfl
  have bc1 : W.cell? ⟨b2, 1, none⟩ = some (.int .i64 x.f1.f0) := (blk_cell B2.out 1).trans rfl
  have bc2 : W.cell? ⟨b2, 2, none⟩ = some (.int .i64 x.f1.f1) := (blk_cell B2.out 2).trans rfl
  have bc3 : W.cell? ⟨b2, 3, none⟩ = some (.string x.f1.f2) := (blk_cell B2.out 3).trans rfl
  have bc4 : W.cell? ⟨b2, 4, none⟩ = some (.string x.f2) := (blk_cell B2.out 4).trans rfl
  have bc5 : W.cell? ⟨b2, 5, none⟩ = some (.slice A' x.f3.length c') := (blk_cell B2.out 5).trans rfl
  have hl1 := blk_lt B1.out
  have hl2 := blk_lt B2.out
  go_wp2_with (first | (go_at_call 108; refine (ih x.f3 W A A' c c' hx2 hc hc' (Kd.C_below HC.out HB.out) (Kd.C_below HC'.out HB.out)).mono ?_; rintro e1 w1 ⟨rfl, hb⟩; have HB1 := Aside0.mk hb; clear hb))
  go_ret
  exact ⟨rfl, below_step HB.out HB1.out⟩
theorem fus_mem2 {x : S43} : ∀ {l : List S43}, x ∈ l → fu x + 1 ≤ fus l
  | y :: l, h => by
    unfold fus
    rcases List.mem_cons.1 h with rfl | h
    · omega
    · have := fus_mem2 h
      omega

set_option maxHeartbeats 2000000 in
set_option maxRecDepth 100000 in
theorem sameList_step (n : Nat) (hn : n ≤ 4611686018427387904) (ih : SameExprAt n) : SameListAt (n + 1) := by
  intro l w A A' c c' hl hc hc' hC hC'
  have HC := Aside0.mk hC
  have HC' := Aside0.mk hC'
  have HL := Aside0.mk hl
  have HLB := Aside0.mk (Nat.le_trans (len_fus l) hl)
  clear hC hC' hl
  go_enter Tryz.func108, Tryz.ntmps108
  go_wp2
  go_loopg [5] l.length (fun kq v5 w' => ∃ j : Nat, v5 = .int .i64 (j : Int) ∧ Aside0 (j + kq = l.length) ∧ Aside0 (Below w.heap.size w w'))
  case atStart => exact ⟨0, rfl, ⟨by omega⟩, ⟨Below.refl _ _⟩⟩
  case round =>
    obtain ⟨j, rfl, HJ, HB⟩ := hrel
    have hjl := HJ.out
    cases gk with
    | zero =>
      have d0 : decide ((j : Int) < (l.length : Int)) = false := decide_eq_false (by omega)
      have d1 : decide (j < l.length) = false := decide_eq_false (by omega)
      clear hjl
      go_wp2
      go_ret
      exact ⟨rfl, HB.out⟩
    | succ k1 =>
      have d0 : decide ((j : Int) < (l.length : Int)) = true := decide_eq_true (by omega)
      have d1 : decide (j < l.length) = true := decide_eq_true (by omega)
      have p1 : 0 ≤ (j : Int) := by omega
      have q1 : (j : Int) < (l.length : Int) := by omega
      obtain ⟨ad, A5, c5, e5, x0, x1, x2, x3, x4, x5, hl5, hi5⟩ := at_T43 (Kd.C_below HC.out HB.out) (j : Int) p1 q1
      obtain ⟨ae, A6, c6, e6, y0, y1, y2, y3, y4, y5, hl6, hi6⟩ := at_T43 (Kd.C_below HC'.out HB.out) (j : Int) p1 q1
      cases e5
      cases e6
      have hjn : j < l.length := by omega
      have hrd : rd_T43 l (j : Int) = l[j] := by
        unfold rd_T43
        rw [Int.toNat_natCast, List.getD_eq_getElem?_getD, List.getElem?_eq_getElem hjn]
        rfl
      obtain ⟨x, hx⟩ : ∃ x, rd_T43 l (j : Int) = x := ⟨_, rfl⟩
      rw [hx] at x0 x1 x2 x3 x4 x5 hl5 hi5 y0 y1 y2 y3 y4 y5 hl6 hi6
      simp only [Int.toNat_natCast] at x0 x1 x2 x3 x4 x5 y0 y1 y2 y3 y4 y5
      have hxm : x ∈ l := by rw [← hx, hrd]; exact List.getElem_mem _
      have HFX := Aside0.mk (show fu x ≤ n by have h1 := fus_mem2 hxm; have := HL.out; omega)
      have HI := Aside0.mk hi5
      have HI6 := Aside0.mk hi6
      have HJ1 := Aside0.mk (show j + 1 + k1 = l.length by omega)
      have hw1 : wrap64 ((j : Int) + 1) = ((j + 1 : Nat) : Int) := by unfold wrap64; have := HLB.out; omega
      have p2 : ((j : Int) < 0) = False := eq_false (by omega)
      replace p1 := eq_true p1
      replace q1 := eq_true q1
      clear hi5 hi6 hx hrd hjl hxm
      go_wp2
      refine start_ (n := 10) (S := fun w' => w'.cell? (ad.add (j * 6)) = some (.string x.f0) ∧ w'.cell? ⟨(ad.add (j * 6)).block, (ad.add (j * 6)).off + 1, none⟩ = some (.int .i64 x.f1.f0) ∧ w'.cell? ⟨(ad.add (j * 6)).block, (ad.add (j * 6)).off + 2, none⟩ = some (.int .i64 x.f1.f1) ∧ w'.cell? ⟨(ad.add (j * 6)).block, (ad.add (j * 6)).off + 3, none⟩ = some (.string x.f1.f2) ∧ w'.cell? ⟨(ad.add (j * 6)).block, (ad.add (j * 6)).off + 4, none⟩ = some (.string x.f2) ∧ w'.cell? ⟨(ad.add (j * 6)).block, (ad.add (j * 6)).off + 5, none⟩ = some (.slice A5 x.f3.length c5) ∧ w'.cell? (ae.add (j * 6)) = some (.string x.f0) ∧ w'.cell? ⟨(ae.add (j * 6)).block, (ae.add (j * 6)).off + 1, none⟩ = some (.int .i64 x.f1.f0) ∧ w'.cell? ⟨(ae.add (j * 6)).block, (ae.add (j * 6)).off + 2, none⟩ = some (.int .i64 x.f1.f1) ∧ w'.cell? ⟨(ae.add (j * 6)).block, (ae.add (j * 6)).off + 3, none⟩ = some (.string x.f1.f2) ∧ w'.cell? ⟨(ae.add (j * 6)).block, (ae.add (j * 6)).off + 4, none⟩ = some (.string x.f2) ∧ w'.cell? ⟨(ae.add (j * 6)).block, (ae.add (j * 6)).off + 5, none⟩ = some (.slice A6 x.f3.length c6)) (ds := []) #[false, false, false, false, false, false, false, false, false, false] (by kernel_rfl) rfl rfl ⟨x0, x1, x2, x3, x4, x5, y0, y1, y2, y3, y4, y5⟩ (fun hHeld => ?_)
      refine pure_ (i := 0) (N := some 17) (v := ?_) (a' := ?_) #[true, false, false, false, false, false, false, false, false, false] rfl rfl (by kernel_rfl) (fun _ _ _ h => h) (Or.inl ⟨by rfl, ?_⟩) ?_ ?_
      rotate_left
      · intro w'
        go_simp
        with_reducible rfl
      rotate_left
      · simp only [Act.put, List.setIfInBounds_toArray, List.set_cons_zero, List.set_cons_succ, i64_w, i32_w]
        rfl
      refine pure_ (i := 1) (N := some 18) (v := ?_) (a' := ?_) #[true, true, false, false, false, false, false, false, false, false] rfl rfl (by kernel_rfl) (fun _ _ _ h => h) (Or.inl ⟨by rfl, ?_⟩) ?_ ?_
      rotate_left
      · intro w'
        go_simp
        with_reducible rfl
      rotate_left
      · simp only [Act.put, List.setIfInBounds_toArray, List.set_cons_zero, List.set_cons_succ, i64_w, i32_w]
        rfl
      refine pure_ (i := 2) (N := some 19) (v := ?_) (a' := ?_) #[true, true, true, false, false, false, false, false, false, false] rfl rfl (by kernel_rfl) (fun _ _ _ h => h) (Or.inl ⟨by rfl, ?_⟩) ?_ ?_
      rotate_left
      · intro w'
        go_simp
        with_reducible rfl
      rotate_left
      · simp only [Act.put, List.setIfInBounds_toArray, List.set_cons_zero, List.set_cons_succ, i64_w, i32_w]
        rfl
      refine take_ (i := 3) (N := some 20) (v := ?_) (a' := ?_) #[true, true, true, true, false, false, false, false, false, false] rfl rfl (by kernel_rfl) (fun _ _ _ h => h) (Or.inl ⟨by rfl, ?_⟩) hHeld ?_ ?_
      rotate_left
      · rintro w' ⟨s0, s1, s2, s3, s4, s5, s6, s7, s8, s9, s10, s11⟩
        go_simp
        with_reducible rfl
      rotate_left
      · simp only [Act.put, List.setIfInBounds_toArray, List.set_cons_zero, List.set_cons_succ, i64_w, i32_w]
        rfl
      refine pure_ (i := 4) (N := some 21) (v := ?_) (a' := ?_) #[true, true, true, true, true, false, false, false, false, false] rfl rfl (by kernel_rfl) (fun _ _ _ h => h) (Or.inl ⟨by rfl, ?_⟩) ?_ ?_
      rotate_left
      · intro w'
        go_simp
        with_reducible rfl
      rotate_left
      · simp only [Act.put, List.setIfInBounds_toArray, List.set_cons_zero, List.set_cons_succ, i64_w, i32_w]
        rfl
      refine pure_ (i := 5) (N := some 22) (v := ?_) (a' := ?_) #[true, true, true, true, true, true, false, false, false, false] rfl rfl (by kernel_rfl) (fun _ _ _ h => h) (Or.inl ⟨by rfl, ?_⟩) ?_ ?_
      rotate_left
      · intro w'
        go_simp
        with_reducible rfl
      rotate_left
      · simp only [Act.put, List.setIfInBounds_toArray, List.set_cons_zero, List.set_cons_succ, i64_w, i32_w]
        rfl
      refine pure_ (i := 6) (N := some 23) (v := ?_) (a' := ?_) #[true, true, true, true, true, true, true, false, false, false] rfl rfl (by kernel_rfl) (fun _ _ _ h => h) (Or.inl ⟨by rfl, ?_⟩) ?_ ?_
      rotate_left
      · intro w'
        go_simp
        with_reducible rfl
      rotate_left
      · simp only [Act.put, List.setIfInBounds_toArray, List.set_cons_zero, List.set_cons_succ, i64_w, i32_w]
        rfl
      refine take_ (i := 7) (N := some 24) (v := ?_) (a' := ?_) #[true, true, true, true, true, true, true, true, false, false] rfl rfl (by kernel_rfl) (fun _ _ _ h => h) (Or.inl ⟨by rfl, ?_⟩) hHeld ?_ ?_
      rotate_left
      · rintro w' ⟨s0, s1, s2, s3, s4, s5, s6, s7, s8, s9, s10, s11⟩
        go_simp
        with_reducible rfl
      rotate_left
      · simp only [Act.put, List.setIfInBounds_toArray, List.set_cons_zero, List.set_cons_succ, i64_w, i32_w]
        rfl
      refine one_ (i := 8) (N := some 25) #[true, true, true, true, true, true, true, true, true, false] rfl rfl (by kernel_rfl) (by decide) (fun K hK => ?_)
      refine goes_ Tryz.func47 (by kernel_rfl) rfl #[.agg (cells43 x A5 c5).toArray, .agg (cells43 x A6 c6).toArray] (by rfl) rfl rfl (by (try simp only [List.map_toArray, List.map_cons, List.map_nil]); first | done | rfl) ?_
      refine (ih x wr.drew A5 A6 c5 c6 HFX.out hl5 hl6 (Kd.C_below HI.out (below_drew1 (Below.refl _ _))) (Kd.C_below HI6.out (below_drew1 (Below.refl _ _)))).mono ?_
      rintro e1 w1 ⟨rfl, hb⟩
      have HB1 := Aside0.mk (below_step (below_drew1 (Below.refl wr.heap.size wr)) hb)
      refine ⟨_, rfl, ?_⟩
      clear hb
      have z0 := pw_cell_below HB1.out x0
      have z1 := pw_cell_below HB1.out x1
      have z2 := pw_cell_below HB1.out x2
      have z3 := pw_cell_below HB1.out x3
      have z4 := pw_cell_below HB1.out x4
      have z5 := pw_cell_below HB1.out x5
      have z6 := pw_cell_below HB1.out y0
      have z7 := pw_cell_below HB1.out y1
      have z8 := pw_cell_below HB1.out y2
      have z9 := pw_cell_below HB1.out y3
      have z10 := pw_cell_below HB1.out y4
      have z11 := pw_cell_below HB1.out y5
      refine hK.out _ _ ⟨z0, z1, z2, z3, z4, z5, z6, z7, z8, z9, z10, z11⟩ (fun hHeld => ?_)
      clear hK K
      refine norm_ (a' := ?_) ?_ ?_
      rotate_left
      · show Act.put _ (some 25) _ = _
        simp only [Act.put, List.setIfInBounds_toArray, List.set_cons_zero, List.set_cons_succ, i64_w, i32_w]
        rfl
      refine pure_ (i := 9) (N := some 26) (v := ?_) (a' := ?_) #[true, true, true, true, true, true, true, true, true, true] rfl rfl (by kernel_rfl) (fun _ _ _ h => h) (Or.inl ⟨by rfl, ?_⟩) ?_ ?_
      rotate_left
      · intro w'
        go_simp
        with_reducible rfl
      rotate_left
      · simp only [Act.put, List.setIfInBounds_toArray, List.set_cons_zero, List.set_cons_succ, i64_w, i32_w]
        rfl
      refine done_ (by kernel_rfl) ?_
      go_wp2
      go_roundg k1
      case measure => first | exact Nat.lt_succ_self _ | omega
      case rel => exact ⟨j + 1, by rw [hw1], HJ1, ⟨below_step HB.out HB1.out⟩⟩
      
theorem fus_pos (l : List S43) : 1 ≤ fus l := by
  cases l with
  | nil => simp [fus]
  | cons x l => unfold fus; omega
theorem same_all : ∀ n, n ≤ 4611686018427387904 → SameListAt n ∧ SameExprAt n := by
  intro n
  induction n with
  | zero =>
    intro _
    refine ⟨fun l w A A' c c' h => ?_, fun x w A A' c c' h => ?_⟩
    · have := fus_pos l; omega
    · have := fu_eq x; omega
  | succ n ih =>
    intro hn
    obtain ⟨h1, h2⟩ := ih (by omega)
    exact ⟨sameList_step n (by omega) h2, sameExpr_step n h1⟩
/-- SameExpr at one expression, wherever it lies: true. -/
theorem sameExpr_out {x : S43} {w : World} {A A' : Option Addr} {c c' : Nat} (hx : fu x ≤ 4611686018427387904) (hc : x.f3.length ≤ c) (hc' : x.f3.length ≤ c') (hC : Kd.C k43 w A x.f3.length x.f3) (hC' : Kd.C k43 w A' x.f3.length x.f3) : Calls Tryz.prog 47 #[.agg (cells43 x A c).toArray, .agg (cells43 x A' c').toArray] w fun e w' => e = .returned (.bool true) ∧ Below w.heap.size w w' :=
  (same_all _ (Nat.le_refl _)).2 x w A A' c c' hx hc hc' hC hC'
theorem sameList_out {l : List S43} {w : World} {A A' : Option Addr} {c c' : Nat} (hx : fus l ≤ 4611686018427387904) (hc : l.length ≤ c) (hc' : l.length ≤ c') (hC : Kd.C k43 w A l.length l) (hC' : Kd.C k43 w A' l.length l) : Calls Tryz.prog 108 #[.slice A l.length c, .slice A' l.length c'] w fun e w' => e = .returned (.bool true) ∧ Below w.heap.size w w' :=
  (same_all _ (Nat.le_refl _)).1 l w A A' c c' hx hc hc' hC hC'
end Go.Proofs.YtcgdncpioafbdaaGreatDoor.Q

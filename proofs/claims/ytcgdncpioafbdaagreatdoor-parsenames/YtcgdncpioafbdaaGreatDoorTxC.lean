/- Text of an expression: the document's. -/
import Derived.Test.YtcgdncpioafbdaaGreatDoorTxB
namespace Go.Proofs.YtcgdncpioafbdaaGreatDoor.Q
open Go Go.RowKit Go.Proofs.YtcgdncpioafbdaaGreatDoorW.PrintWords Go.Proofs.YtcgdncpioafbdaaGreatDoorW.PrintLast Go.Proofs.YtcgdncpioafbdaaGreatDoorW.PrintMore
def binL : List (List UInt8) := [[61], [60, 62], [60], [60, 61], [62], [62, 61], [43], [45], [124, 124], [42], [47], [37]]
theorem bigB_is (s : ByteArray) : bigB s = binL.contains s.toList := by
  unfold bigB Ps.binds
  by_cases h1 : s.toList = [111, 114]
  · simp [h1, binL]
  · rw [if_neg h1]
    by_cases h2 : s.toList = [97, 110, 100]
    · simp [h2, binL]
    · rw [if_neg h2]
      by_cases h3 : s.toList = [105, 115]
      · simp [h3, binL]
      · have e3 : (s.toList == [105, 115]) = false := beq_eq_false_iff_ne.mpr h3
        simp only [List.contains_cons, List.contains_nil, e3, binL, Bool.or_false]
        generalize (s.toList == [61]) = b1
        generalize (s.toList == [60, 62]) = b2
        generalize (s.toList == [60]) = b3
        generalize (s.toList == [60, 61]) = b4
        generalize (s.toList == [62]) = b5
        generalize (s.toList == [62, 61]) = b6
        generalize (s.toList == [43]) = b7
        generalize (s.toList == [45]) = b8
        generalize (s.toList == [124, 124]) = b9
        generalize (s.toList == [42]) = b10
        generalize (s.toList == [47]) = b11
        generalize (s.toList == [37]) = b12
        clear h1 h2 h3 e3
        revert b1 b2 b3 b4 b5 b6 b7 b8 b9 b10 b11 b12
        decide +kernel
theorem bigB_mem {s : ByteArray} (h : bigB s = true) : s.toList = [61] ∨ s.toList = [60, 62] ∨ s.toList = [60] ∨ s.toList = [60, 61] ∨ s.toList = [62] ∨ s.toList = [62, 61] ∨ s.toList = [43] ∨ s.toList = [45] ∨ s.toList = [124, 124] ∨ s.toList = [42] ∨ s.toList = [47] ∨ s.toList = [37] := by
  rw [bigB_is] at h
  simpa [binL] using h
theorem bigB_no {s : ByteArray} (h : ¬ bigB s = true) : s.toList ∉ binL := by
  rw [bigB_is] at h
  simpa using h
def RTextAt (n : Nat) : Prop := ∀ (x : S43) (w : World) (A : Option Addr) (c : Nat), fu x ≤ n → TG x → (txt x).size ≤ 1000000000 → x.f3.length ≤ c → Kd.C k43 w A x.f3.length x.f3 → Calls Tryz.prog 42 #[.agg (cells43 x A c).toArray] w fun e w' => e = .returned (.string (txt x)) ∧ Below w.heap.size w w'
def RInAt (n : Nat) : Prop := ∀ (x : S43) (w : World) (A : Option Addr) (c : Nat) (iv : Int) (i : Nat), iv = (i : Int) → i < 2 → fus x.f3 ≤ n → TGs x.f3 → (inn x.f3 i).size ≤ 1000000000 → x.f3.length ≤ c → Kd.C k43 w A x.f3.length x.f3 → Calls Tryz.prog 104 #[.agg (cells43 x A c).toArray, .int .i64 iv] w fun e w' => e = .returned (.string (inn x.f3 i)) ∧ Below w.heap.size w w'

set_option maxHeartbeats 1000000 in
set_option maxRecDepth 100000 in
theorem rin_step (n : Nat) (ih : RTextAt n) : RInAt (n + 1) := by
  intro x w A c iv i hiv hi2 hx hT hz hc hC
  subst hiv
  have HX := Aside0.mk hx
  have HT := Aside0.mk hT
  have HZ := Aside0.mk hz
  clear hx hT hz
  unfold cells43
  go_enter Tryz.func104, Tryz.ntmps104
  go_upto_region 1 with (fail)
  have HB := Aside0.mk (below_alloc (Below.refl w.heap.size w) (.cells #[.string x.f0, .int .i64 x.f1.f0, .int .i64 x.f1.f1, .string x.f1.f2, .string x.f2, .slice A x.f3.length c] 43 (0, 0)))
  have HC := Aside0.mk (Kd.C_below hC HB.out)
  have BK := Aside0.mk (new_blk (W := w) (.cells #[.string x.f0, .int .i64 x.f1.f0, .int .i64 x.f1.f1, .string x.f1.f2, .string x.f2, .slice A x.f3.length c] 43 (0, 0)) rfl)
  clear hC
  generalize hb1 : w.heap.size = b at BK ⊢
  generalize hW : w.alloc (.cells #[.string x.f0, .int .i64 x.f1.f0, .int .i64 x.f1.f1, .string x.f1.f2, .string x.f2, .slice A x.f3.length c] 43 (0, 0)) = W at HB HC BK ⊢
  clear hW hb1
  have cc0 : W.cell? ⟨b, 0, none⟩ = some (.string x.f0) := (blk_cell BK.out 0).trans rfl
  have cc1 : W.cell? ⟨b, 1, none⟩ = some (.int .i64 x.f1.f0) := (blk_cell BK.out 1).trans rfl
  have cc2 : W.cell? ⟨b, 2, none⟩ = some (.int .i64 x.f1.f1) := (blk_cell BK.out 2).trans rfl
  have cc3 : W.cell? ⟨b, 3, none⟩ = some (.string x.f1.f2) := (blk_cell BK.out 3).trans rfl
  have cc4 : W.cell? ⟨b, 4, none⟩ = some (.string x.f2) := (blk_cell BK.out 4).trans rfl
  have cc5 : W.cell? ⟨b, 5, none⟩ = some (.slice A x.f3.length c) := (blk_cell BK.out 5).trans rfl
  have hlt := blk_lt BK.out
  by_cases hi : i < x.f3.length
  · have d0 : decide ((i : Int) < (x.f3.length : Int)) = true := decide_eq_true (by omega)
    have d1 : decide (i < x.f3.length) = true := decide_eq_true hi
    have p1 : 0 ≤ (i : Int) := by omega
    have q1 : (i : Int) < (x.f3.length : Int) := by omega
    obtain ⟨ad, A5, c5, e5, x0, x1, x2, x3, x4, x5, hl5, hi5⟩ := at_T43 HC.out (i : Int) p1 q1
    cases e5
    have hrd : rd_T43 x.f3 (i : Int) = x.f3[i] := by
      unfold rd_T43
      rw [Int.toNat_natCast, List.getD_eq_getElem?_getD, List.getElem?_eq_getElem hi]
      rfl
    have HI := Aside0.mk (inn_some hi)
    obtain ⟨y, hy⟩ : ∃ y, x.f3[i] = y := ⟨_, rfl⟩
    have HY := Aside0.mk hy
    rw [hrd, hy] at x0 x1 x2 x3 x4 x5 hl5 hi5
    simp only [Int.toNat_natCast] at x0 x1 x2 x3 x4 x5
    have hym : y ∈ x.f3 := by rw [← hy]; exact List.getElem_mem _
    have HFX := Aside0.mk (show fu y ≤ n by have h1 := fus_mem2 hym; have := HX.out; omega)
    have HTY := Aside0.mk (TGs_mem hym HT.out)
    have HL5 := Aside0.mk hl5
    have HC5 := Aside0.mk hi5
    have hz1 : (txt y).size + 2 ≤ 1000000000 := by
      have h1 := HZ.out
      rw [HI.out, HY.out] at h1
      have e1 : (⟨#[40]⟩ : ByteArray).size = 1 := rfl
      have e2 : (⟨#[41]⟩ : ByteArray).size = 1 := rfl
      rw [ByteArray.size_append, ByteArray.size_append, e1, e2] at h1
      omega
    have p2 : ((i : Int) < 0) = False := eq_false (by omega)
    have HZY := Aside0.mk (show (txt y).size ≤ 1000000000 by omega)
    replace p1 := eq_true p1
    replace q1 := eq_true q1
    clear hl5 hi5 hrd hym hy
    go_wp2_with (first | (go_at_call 42; refine (ih y _ A5 c5 HFX.out HTY.out HZY.out HL5.out HC5.out).mono ?_; rintro e1 w1 ⟨rfl, hb1⟩; have HB1 := Aside0.mk hb1; clear hb1))
    go_ret
    exact ⟨by rw [HI.out, HY.out]; rfl, below_step HB.out HB1.out⟩
  · have d0 : decide ((i : Int) < (x.f3.length : Int)) = false := decide_eq_false (by omega)
    have d1 : decide (i < x.f3.length) = false := decide_eq_false hi
    have HI := Aside0.mk (inn_none (Nat.le_of_not_lt hi))
    go_wp2
    go_ret
    exact ⟨by rw [HI.out]; rfl, HB.out⟩
set_option maxHeartbeats 4000000 in
set_option maxRecDepth 100000 in
theorem rtext_step (n : Nat) (ih : RInAt n) : RTextAt (n + 1) := by
  intro x w A c hx hT hz hc hC
  have HX := Aside0.mk (show fus x.f3 ≤ n by have := fu_eq x; omega)
  have HT := Aside0.mk ((TG_eq x).1 hT).2
  have HN := Aside0.mk ((TG_eq x).1 hT).1
  have HZ := Aside0.mk hz
  have HL := Aside0.mk hc
  clear hx hT hz hc
  unfold cells43
  go_enter Tryz.func42, Tryz.ntmps42
  go_upto_region 1 with (fail)
  have HB := Aside0.mk (below_alloc (Below.refl w.heap.size w) (.cells #[.string x.f0, .int .i64 x.f1.f0, .int .i64 x.f1.f1, .string x.f1.f2, .string x.f2, .slice A x.f3.length c] 43 (0, 0)))
  have HC1 := Aside0.mk (Kd.C_below hC HB.out)
  have BK := Aside0.mk (new_blk (W := w) (.cells #[.string x.f0, .int .i64 x.f1.f0, .int .i64 x.f1.f1, .string x.f1.f2, .string x.f2, .slice A x.f3.length c] 43 (0, 0)) rfl)
  clear hC
  have HC := HC1
  clear HC1
  generalize hb1 : w.heap.size = b at BK ⊢
  generalize hW : w.alloc (.cells #[.string x.f0, .int .i64 x.f1.f0, .int .i64 x.f1.f1, .string x.f1.f2, .string x.f2, .slice A x.f3.length c] 43 (0, 0)) = W at HB HC BK ⊢
  clear hW hb1
  have cc0 : W.cell? ⟨b, 0, none⟩ = some (.string x.f0) := (blk_cell BK.out 0).trans rfl
  have cc1 : W.cell? ⟨b, 1, none⟩ = some (.int .i64 x.f1.f0) := (blk_cell BK.out 1).trans rfl
  have cc2 : W.cell? ⟨b, 2, none⟩ = some (.int .i64 x.f1.f1) := (blk_cell BK.out 2).trans rfl
  have cc3 : W.cell? ⟨b, 3, none⟩ = some (.string x.f1.f2) := (blk_cell BK.out 3).trans rfl
  have cc4 : W.cell? ⟨b, 4, none⟩ = some (.string x.f2) := (blk_cell BK.out 4).trans rfl
  have cc5 : W.cell? ⟨b, 5, none⟩ = some (.slice A x.f3.length c) := (blk_cell BK.out 5).trans rfl
  have hlt := blk_lt BK.out
  by_cases c0 : x.f0.toList = [118, 97, 108]
  · have f01 : (x.f0.toList == [118, 97, 108]) = true := beq_iff_eq.mpr c0
    have e0 := txt_eq x
    unfold txtB at e0
    rw [if_pos c0] at e0
    clear c0
    have HT0 := Aside0.mk e0
    clear e0
    unfold lit at HT0
    by_cases k0 : x.f1.f0 = 0
    · have b0 : (x.f1.f0 == 0) = true := beq_iff_eq.mpr k0
      rw [if_pos k0] at HT0
      clear k0
      go_wp2
      go_ret
      exact ⟨by rw [HT0.out]; rfl, HB.out⟩
    · have b0 : (x.f1.f0 == 0) = false := beq_eq_false_iff_ne.mpr k0
      rw [if_neg k0] at HT0
      by_cases k1 : x.f1.f0 = 1
      · have b1 : (x.f1.f0 == 1) = true := beq_iff_eq.mpr k1
        rw [if_pos k1] at HT0
        clear k0 k1
        have HL1 := Aside0.mk (rNumber (k := 40) (n := x.f1.f1) (by omega) HN.out.1 HN.out.2.1)
        generalize (if x.f1.f1 < 0 then (⟨#[45]⟩ : ByteArray) ++ ba (digA 20 (-x.f1.f1).toNat) else ba (digA 20 x.f1.f1.toNat)) = rr at HL1 HT0
        go_wp2_with (first | (go_at_call 103; refine (vidimusref17_number.calls 40 x.f1.f1 _ _ HL1.out).mono ?_; rintro e1 w1 ⟨rfl, hb⟩; have HB1 := Aside0.mk hb; clear hb))
        go_ret
        exact ⟨by rw [HT0.out]; rfl, below_step HB.out HB1.out⟩
      · have b1 : (x.f1.f0 == 1) = false := beq_eq_false_iff_ne.mpr k1
        rw [if_neg k1] at HT0
        clear k0 k1
        have HL1 := Aside0.mk (refQuoted x.f1.f2 600 (by have := HN.out.2.2; omega) HN.out.2.2)
        go_wp2_with (first | (go_at_call 68; refine (vidimusref16_Quoted.calls 600 x.f1.f2 _ _ HL1.out).mono ?_; rintro e1 w1 ⟨rfl, ⟨nd, rfl⟩⟩))
        go_ret
        exact ⟨by rw [HT0.out]; rfl, pw_below_drewN HB.out nd⟩
  · skip
    by_cases c1 : x.f0.toList = [99, 111, 108]
    · have f00 : (x.f0.toList == [118, 97, 108]) = false := beq_eq_false_iff_ne.mpr c0
      have f11 : (x.f0.toList == [99, 111, 108]) = true := beq_iff_eq.mpr c1
      have e0 := txt_eq x
      unfold txtB at e0
      rw [if_neg c0, if_pos c1] at e0
      clear c0 c1
      have HT0 := Aside0.mk e0
      clear e0
      go_wp2
      go_ret
      exact ⟨by rw [HT0.out]; rfl, HB.out⟩
    · skip
      by_cases c2 : x.f0.toList = [111, 114]
      · have f00 : (x.f0.toList == [118, 97, 108]) = false := beq_eq_false_iff_ne.mpr c0
        have f10 : (x.f0.toList == [99, 111, 108]) = false := beq_eq_false_iff_ne.mpr c1
        have f21 : (x.f0.toList == [111, 114]) = true := beq_iff_eq.mpr c2
        have e0 := txt_eq x
        unfold txtB at e0
        rw [if_neg c0, if_neg c1, if_pos c2] at e0
        simp only [← inn_def] at e0
        clear c0 c1 c2
        have hz : (inn x.f3 0).size + 1 + x.f0.size + 1 + (inn x.f3 1).size ≤ 1000000000 := by
          have h1 := HZ.out
          rw [e0] at h1
          simp only [ByteArray.size_append, (show (⟨#[32]⟩ : ByteArray).size = 1 from rfl), (show (⟨#[110, 111, 116, 32]⟩ : ByteArray).size = 4 from rfl), (show (⟨#[45]⟩ : ByteArray).size = 1 from rfl), (show (⟨#[32, 105, 115, 32, 110, 117, 108, 108]⟩ : ByteArray).size = 8 from rfl)] at h1
          exact h1
        have HZ0 := Aside0.mk (show (inn x.f3 0).size ≤ 1000000000 by omega)
        have HZ1 := Aside0.mk (show (inn x.f3 1).size ≤ 1000000000 by omega)
        have t0 : (9223372036854775807 < (inn x.f3 0).size + 1) = False := eq_false (by omega)
        have t1 : (9223372036854775807 < (inn x.f3 0).size + 1 + x.f0.size) = False := eq_false (by omega)
        have t2 : (9223372036854775807 < (inn x.f3 0).size + 1 + x.f0.size + 1) = False := eq_false (by omega)
        have t3 : (9223372036854775807 < (inn x.f3 0).size + 1 + x.f0.size + 1 + (inn x.f3 1).size) = False := eq_false (by omega)
        have HT0 := Aside0.mk e0
        clear e0
        go_upto_region 13 with (fail)
        refine start_ (n := 11) (S := fun w' => w'.cell? ⟨b, 0, none⟩ = some (.string x.f0) ∧ w'.cell? ⟨b, 1, none⟩ = some (.int .i64 x.f1.f0) ∧ w'.cell? ⟨b, 2, none⟩ = some (.int .i64 x.f1.f1) ∧ w'.cell? ⟨b, 3, none⟩ = some (.string x.f1.f2) ∧ w'.cell? ⟨b, 4, none⟩ = some (.string x.f2) ∧ w'.cell? ⟨b, 5, none⟩ = some (.slice A x.f3.length c) ∧ Below W.heap.size W w') (ds := []) #[false, false, false, false, false, false, false, false, false, false, false] (by kernel_rfl) rfl rfl ⟨cc0, cc1, cc2, cc3, cc4, cc5, below_drew1 (Below.refl _ _)⟩ (fun hHeld => ?_)
        refine pure_ (i := 3) (N := some 32) (v := ?_) (a' := ?_) #[false, false, false, true, false, false, false, false, false, false, false] rfl rfl (by kernel_rfl) (fun _ _ _ h => h) (Or.inl ⟨by rfl, ?_⟩) ?_ ?_
        rotate_left
        · intro w'
          go_simp
          with_reducible rfl
        rotate_left
        · simp only [Act.put, List.setIfInBounds_toArray, List.set_cons_zero, List.set_cons_succ, i64_w, i32_w]
          rfl
        refine take_ (i := 0) (N := some 29) (v := ?_) (a' := ?_) #[true, false, false, true, false, false, false, false, false, false, false] rfl rfl (by kernel_rfl) (fun _ _ _ h => h) (Or.inl ⟨by rfl, ?_⟩) hHeld ?_ ?_
        rotate_left
        · rintro w' ⟨s0, s1, s2, s3, s4, s5, _⟩
          go_simp
          with_reducible rfl
        rotate_left
        · simp only [Act.put, List.setIfInBounds_toArray, List.set_cons_zero, List.set_cons_succ, i64_w, i32_w]
          rfl
        refine take_ (i := 7) (N := some 36) (v := ?_) (a' := ?_) #[true, false, false, true, false, false, false, true, false, false, false] rfl rfl (by kernel_rfl) (fun _ _ _ h => h) (Or.inl ⟨by rfl, ?_⟩) hHeld ?_ ?_
        rotate_left
        · rintro w' ⟨s0, s1, s2, s3, s4, s5, _⟩
          go_simp
          with_reducible rfl
        rotate_left
        · simp only [Act.put, List.setIfInBounds_toArray, List.set_cons_zero, List.set_cons_succ, i64_w, i32_w]
          rfl
        refine take_ (i := 4) (N := some 33) (v := ?_) (a' := ?_) #[true, false, false, true, true, false, false, true, false, false, false] rfl rfl (by kernel_rfl) (fun _ _ _ h => h) (Or.inl ⟨by rfl, ?_⟩) hHeld ?_ ?_
        rotate_left
        · rintro w' ⟨s0, s1, s2, s3, s4, s5, _⟩
          go_simp
          with_reducible rfl
        rotate_left
        · simp only [Act.put, List.setIfInBounds_toArray, List.set_cons_zero, List.set_cons_succ, i64_w, i32_w]
          rfl
        refine one_ (i := 1) (N := some 30) #[true, true, false, true, true, false, false, true, false, false, false] rfl rfl (by kernel_rfl) (by decide) (fun K hK => ?_)
        refine goes_ Tryz.func104 (by kernel_rfl) rfl #[.agg (cells43 x A c).toArray, .int .i64 0] (by rfl) rfl rfl (by (try simp only [List.map_toArray, List.map_cons, List.map_nil]); first | done | rfl) ?_
        refine (ih x _ A c 0 0 rfl (by omega) HX.out HT.out HZ0.out HL.out (Kd.C_below HC.out (below_drew1 (Below.refl W.heap.size W)))).mono ?_
        rintro e1 w1 ⟨rfl, hb⟩
        have HB1 := Aside0.mk (below_step (below_drew1 (Below.refl W.heap.size W)) hb)
        refine ⟨_, rfl, ?_⟩
        clear hb
        have z10 := pw_cell_below HB1.out cc0
        have z11 := pw_cell_below HB1.out cc1
        have z12 := pw_cell_below HB1.out cc2
        have z13 := pw_cell_below HB1.out cc3
        have z14 := pw_cell_below HB1.out cc4
        have z15 := pw_cell_below HB1.out cc5
        refine hK.out _ _ ⟨z10, z11, z12, z13, z14, z15, HB1.out⟩ (fun hHeld => ?_)
        clear hK K
        refine norm_ (a' := ?_) ?_ ?_
        rotate_left
        · show Act.put _ (some 30) _ = _
          simp only [Act.put, List.setIfInBounds_toArray, List.set_cons_zero, List.set_cons_succ, i64_w, i32_w]
          rfl
        clear z10 z11 z12 z13 z14 z15
        refine pure_ (i := 2) (N := some 31) (v := ?_) (a' := ?_) #[true, true, true, true, true, false, false, true, false, false, false] rfl rfl (by kernel_rfl) (fun _ _ _ h => h) (Or.inl ⟨by rfl, ?_⟩) ?_ ?_
        rotate_left
        · intro w'
          go_simp
          with_reducible rfl
        rotate_left
        · simp only [Act.put, List.setIfInBounds_toArray, List.set_cons_zero, List.set_cons_succ, i64_w, i32_w]
          rfl
        refine pure_ (i := 5) (N := some 34) (v := ?_) (a' := ?_) #[true, true, true, true, true, true, false, true, false, false, false] rfl rfl (by kernel_rfl) (fun _ _ _ h => h) (Or.inl ⟨by rfl, ?_⟩) ?_ ?_
        rotate_left
        · intro w'
          go_simp
          with_reducible rfl
        rotate_left
        · simp only [Act.put, List.setIfInBounds_toArray, List.set_cons_zero, List.set_cons_succ, i64_w, i32_w]
          rfl
        refine pure_ (i := 6) (N := some 35) (v := ?_) (a' := ?_) #[true, true, true, true, true, true, true, true, false, false, false] rfl rfl (by kernel_rfl) (fun _ _ _ h => h) (Or.inl ⟨by rfl, ?_⟩) ?_ ?_
        rotate_left
        · intro w'
          go_simp
          with_reducible rfl
        rotate_left
        · simp only [Act.put, List.setIfInBounds_toArray, List.set_cons_zero, List.set_cons_succ, i64_w, i32_w]
          rfl
        refine one_ (i := 8) (N := some 37) #[true, true, true, true, true, true, true, true, true, false, false] rfl rfl (by kernel_rfl) (by decide) (fun K hK => ?_)
        refine goes_ Tryz.func104 (by kernel_rfl) rfl #[.agg (cells43 x A c).toArray, .int .i64 1] (by rfl) rfl rfl (by (try simp only [List.map_toArray, List.map_cons, List.map_nil]); first | done | rfl) ?_
        refine (ih x _ A c 1 1 rfl (by omega) HX.out HT.out HZ1.out HL.out (Kd.C_below HC.out HB1.out)).mono ?_
        rintro e2 w2 ⟨rfl, hb⟩
        have HB2 := Aside0.mk (below_step HB1.out hb)
        refine ⟨_, rfl, ?_⟩
        clear hb
        have z20 := pw_cell_below HB2.out cc0
        have z21 := pw_cell_below HB2.out cc1
        have z22 := pw_cell_below HB2.out cc2
        have z23 := pw_cell_below HB2.out cc3
        have z24 := pw_cell_below HB2.out cc4
        have z25 := pw_cell_below HB2.out cc5
        refine hK.out _ _ ⟨z20, z21, z22, z23, z24, z25, HB2.out⟩ (fun hHeld => ?_)
        clear hK K
        refine norm_ (a' := ?_) ?_ ?_
        rotate_left
        · show Act.put _ (some 37) _ = _
          simp only [Act.put, List.setIfInBounds_toArray, List.set_cons_zero, List.set_cons_succ, i64_w, i32_w]
          rfl
        clear z20 z21 z22 z23 z24 z25
        refine pure_ (i := 9) (N := some 38) (v := ?_) (a' := ?_) #[true, true, true, true, true, true, true, true, true, true, false] rfl rfl (by kernel_rfl) (fun _ _ _ h => h) (Or.inl ⟨by rfl, ?_⟩) ?_ ?_
        rotate_left
        · intro w'
          go_simp
          with_reducible rfl
        rotate_left
        · simp only [Act.put, List.setIfInBounds_toArray, List.set_cons_zero, List.set_cons_succ, i64_w, i32_w]
          rfl
        refine pure_ (i := 10) (N := some 2) (v := ?_) (a' := ?_) #[true, true, true, true, true, true, true, true, true, true, true] rfl rfl (by kernel_rfl) (fun _ _ _ h => h) (Or.inl ⟨by rfl, ?_⟩) ?_ ?_
        rotate_left
        · intro w'
          go_simp
          with_reducible rfl
        rotate_left
        · simp only [Act.put, List.setIfInBounds_toArray, List.set_cons_zero, List.set_cons_succ, i64_w, i32_w]
          rfl
        refine done_ (by kernel_rfl) ?_
        go_wp2
        go_ret
        exact ⟨by rw [HT0.out]; rfl, below_step HB.out HB2.out⟩
      · skip
        by_cases c3 : x.f0.toList = [97, 110, 100]
        · have f00 : (x.f0.toList == [118, 97, 108]) = false := beq_eq_false_iff_ne.mpr c0
          have f10 : (x.f0.toList == [99, 111, 108]) = false := beq_eq_false_iff_ne.mpr c1
          have f20 : (x.f0.toList == [111, 114]) = false := beq_eq_false_iff_ne.mpr c2
          have f31 : (x.f0.toList == [97, 110, 100]) = true := beq_iff_eq.mpr c3
          have e0 := txt_eq x
          unfold txtB at e0
          rw [if_neg c0, if_neg c1, if_neg c2, if_pos c3] at e0
          simp only [← inn_def] at e0
          clear c0 c1 c2 c3
          have hz : (inn x.f3 0).size + 1 + x.f0.size + 1 + (inn x.f3 1).size ≤ 1000000000 := by
            have h1 := HZ.out
            rw [e0] at h1
            simp only [ByteArray.size_append, (show (⟨#[32]⟩ : ByteArray).size = 1 from rfl), (show (⟨#[110, 111, 116, 32]⟩ : ByteArray).size = 4 from rfl), (show (⟨#[45]⟩ : ByteArray).size = 1 from rfl), (show (⟨#[32, 105, 115, 32, 110, 117, 108, 108]⟩ : ByteArray).size = 8 from rfl)] at h1
            exact h1
          have HZ0 := Aside0.mk (show (inn x.f3 0).size ≤ 1000000000 by omega)
          have HZ1 := Aside0.mk (show (inn x.f3 1).size ≤ 1000000000 by omega)
          have t0 : (9223372036854775807 < (inn x.f3 0).size + 1) = False := eq_false (by omega)
          have t1 : (9223372036854775807 < (inn x.f3 0).size + 1 + x.f0.size) = False := eq_false (by omega)
          have t2 : (9223372036854775807 < (inn x.f3 0).size + 1 + x.f0.size + 1) = False := eq_false (by omega)
          have t3 : (9223372036854775807 < (inn x.f3 0).size + 1 + x.f0.size + 1 + (inn x.f3 1).size) = False := eq_false (by omega)
          have HT0 := Aside0.mk e0
          clear e0
          go_upto_region 13 with (fail)
          refine start_ (n := 11) (S := fun w' => w'.cell? ⟨b, 0, none⟩ = some (.string x.f0) ∧ w'.cell? ⟨b, 1, none⟩ = some (.int .i64 x.f1.f0) ∧ w'.cell? ⟨b, 2, none⟩ = some (.int .i64 x.f1.f1) ∧ w'.cell? ⟨b, 3, none⟩ = some (.string x.f1.f2) ∧ w'.cell? ⟨b, 4, none⟩ = some (.string x.f2) ∧ w'.cell? ⟨b, 5, none⟩ = some (.slice A x.f3.length c) ∧ Below W.heap.size W w') (ds := []) #[false, false, false, false, false, false, false, false, false, false, false] (by kernel_rfl) rfl rfl ⟨cc0, cc1, cc2, cc3, cc4, cc5, below_drew1 (Below.refl _ _)⟩ (fun hHeld => ?_)
          refine pure_ (i := 3) (N := some 32) (v := ?_) (a' := ?_) #[false, false, false, true, false, false, false, false, false, false, false] rfl rfl (by kernel_rfl) (fun _ _ _ h => h) (Or.inl ⟨by rfl, ?_⟩) ?_ ?_
          rotate_left
          · intro w'
            go_simp
            with_reducible rfl
          rotate_left
          · simp only [Act.put, List.setIfInBounds_toArray, List.set_cons_zero, List.set_cons_succ, i64_w, i32_w]
            rfl
          refine take_ (i := 0) (N := some 29) (v := ?_) (a' := ?_) #[true, false, false, true, false, false, false, false, false, false, false] rfl rfl (by kernel_rfl) (fun _ _ _ h => h) (Or.inl ⟨by rfl, ?_⟩) hHeld ?_ ?_
          rotate_left
          · rintro w' ⟨s0, s1, s2, s3, s4, s5, _⟩
            go_simp
            with_reducible rfl
          rotate_left
          · simp only [Act.put, List.setIfInBounds_toArray, List.set_cons_zero, List.set_cons_succ, i64_w, i32_w]
            rfl
          refine take_ (i := 7) (N := some 36) (v := ?_) (a' := ?_) #[true, false, false, true, false, false, false, true, false, false, false] rfl rfl (by kernel_rfl) (fun _ _ _ h => h) (Or.inl ⟨by rfl, ?_⟩) hHeld ?_ ?_
          rotate_left
          · rintro w' ⟨s0, s1, s2, s3, s4, s5, _⟩
            go_simp
            with_reducible rfl
          rotate_left
          · simp only [Act.put, List.setIfInBounds_toArray, List.set_cons_zero, List.set_cons_succ, i64_w, i32_w]
            rfl
          refine take_ (i := 4) (N := some 33) (v := ?_) (a' := ?_) #[true, false, false, true, true, false, false, true, false, false, false] rfl rfl (by kernel_rfl) (fun _ _ _ h => h) (Or.inl ⟨by rfl, ?_⟩) hHeld ?_ ?_
          rotate_left
          · rintro w' ⟨s0, s1, s2, s3, s4, s5, _⟩
            go_simp
            with_reducible rfl
          rotate_left
          · simp only [Act.put, List.setIfInBounds_toArray, List.set_cons_zero, List.set_cons_succ, i64_w, i32_w]
            rfl
          refine one_ (i := 1) (N := some 30) #[true, true, false, true, true, false, false, true, false, false, false] rfl rfl (by kernel_rfl) (by decide) (fun K hK => ?_)
          refine goes_ Tryz.func104 (by kernel_rfl) rfl #[.agg (cells43 x A c).toArray, .int .i64 0] (by rfl) rfl rfl (by (try simp only [List.map_toArray, List.map_cons, List.map_nil]); first | done | rfl) ?_
          refine (ih x _ A c 0 0 rfl (by omega) HX.out HT.out HZ0.out HL.out (Kd.C_below HC.out (below_drew1 (Below.refl W.heap.size W)))).mono ?_
          rintro e1 w1 ⟨rfl, hb⟩
          have HB1 := Aside0.mk (below_step (below_drew1 (Below.refl W.heap.size W)) hb)
          refine ⟨_, rfl, ?_⟩
          clear hb
          have z10 := pw_cell_below HB1.out cc0
          have z11 := pw_cell_below HB1.out cc1
          have z12 := pw_cell_below HB1.out cc2
          have z13 := pw_cell_below HB1.out cc3
          have z14 := pw_cell_below HB1.out cc4
          have z15 := pw_cell_below HB1.out cc5
          refine hK.out _ _ ⟨z10, z11, z12, z13, z14, z15, HB1.out⟩ (fun hHeld => ?_)
          clear hK K
          refine norm_ (a' := ?_) ?_ ?_
          rotate_left
          · show Act.put _ (some 30) _ = _
            simp only [Act.put, List.setIfInBounds_toArray, List.set_cons_zero, List.set_cons_succ, i64_w, i32_w]
            rfl
          clear z10 z11 z12 z13 z14 z15
          refine pure_ (i := 2) (N := some 31) (v := ?_) (a' := ?_) #[true, true, true, true, true, false, false, true, false, false, false] rfl rfl (by kernel_rfl) (fun _ _ _ h => h) (Or.inl ⟨by rfl, ?_⟩) ?_ ?_
          rotate_left
          · intro w'
            go_simp
            with_reducible rfl
          rotate_left
          · simp only [Act.put, List.setIfInBounds_toArray, List.set_cons_zero, List.set_cons_succ, i64_w, i32_w]
            rfl
          refine pure_ (i := 5) (N := some 34) (v := ?_) (a' := ?_) #[true, true, true, true, true, true, false, true, false, false, false] rfl rfl (by kernel_rfl) (fun _ _ _ h => h) (Or.inl ⟨by rfl, ?_⟩) ?_ ?_
          rotate_left
          · intro w'
            go_simp
            with_reducible rfl
          rotate_left
          · simp only [Act.put, List.setIfInBounds_toArray, List.set_cons_zero, List.set_cons_succ, i64_w, i32_w]
            rfl
          refine pure_ (i := 6) (N := some 35) (v := ?_) (a' := ?_) #[true, true, true, true, true, true, true, true, false, false, false] rfl rfl (by kernel_rfl) (fun _ _ _ h => h) (Or.inl ⟨by rfl, ?_⟩) ?_ ?_
          rotate_left
          · intro w'
            go_simp
            with_reducible rfl
          rotate_left
          · simp only [Act.put, List.setIfInBounds_toArray, List.set_cons_zero, List.set_cons_succ, i64_w, i32_w]
            rfl
          refine one_ (i := 8) (N := some 37) #[true, true, true, true, true, true, true, true, true, false, false] rfl rfl (by kernel_rfl) (by decide) (fun K hK => ?_)
          refine goes_ Tryz.func104 (by kernel_rfl) rfl #[.agg (cells43 x A c).toArray, .int .i64 1] (by rfl) rfl rfl (by (try simp only [List.map_toArray, List.map_cons, List.map_nil]); first | done | rfl) ?_
          refine (ih x _ A c 1 1 rfl (by omega) HX.out HT.out HZ1.out HL.out (Kd.C_below HC.out HB1.out)).mono ?_
          rintro e2 w2 ⟨rfl, hb⟩
          have HB2 := Aside0.mk (below_step HB1.out hb)
          refine ⟨_, rfl, ?_⟩
          clear hb
          have z20 := pw_cell_below HB2.out cc0
          have z21 := pw_cell_below HB2.out cc1
          have z22 := pw_cell_below HB2.out cc2
          have z23 := pw_cell_below HB2.out cc3
          have z24 := pw_cell_below HB2.out cc4
          have z25 := pw_cell_below HB2.out cc5
          refine hK.out _ _ ⟨z20, z21, z22, z23, z24, z25, HB2.out⟩ (fun hHeld => ?_)
          clear hK K
          refine norm_ (a' := ?_) ?_ ?_
          rotate_left
          · show Act.put _ (some 37) _ = _
            simp only [Act.put, List.setIfInBounds_toArray, List.set_cons_zero, List.set_cons_succ, i64_w, i32_w]
            rfl
          clear z20 z21 z22 z23 z24 z25
          refine pure_ (i := 9) (N := some 38) (v := ?_) (a' := ?_) #[true, true, true, true, true, true, true, true, true, true, false] rfl rfl (by kernel_rfl) (fun _ _ _ h => h) (Or.inl ⟨by rfl, ?_⟩) ?_ ?_
          rotate_left
          · intro w'
            go_simp
            with_reducible rfl
          rotate_left
          · simp only [Act.put, List.setIfInBounds_toArray, List.set_cons_zero, List.set_cons_succ, i64_w, i32_w]
            rfl
          refine pure_ (i := 10) (N := some 2) (v := ?_) (a' := ?_) #[true, true, true, true, true, true, true, true, true, true, true] rfl rfl (by kernel_rfl) (fun _ _ _ h => h) (Or.inl ⟨by rfl, ?_⟩) ?_ ?_
          rotate_left
          · intro w'
            go_simp
            with_reducible rfl
          rotate_left
          · simp only [Act.put, List.setIfInBounds_toArray, List.set_cons_zero, List.set_cons_succ, i64_w, i32_w]
            rfl
          refine done_ (by kernel_rfl) ?_
          go_wp2
          go_ret
          exact ⟨by rw [HT0.out]; rfl, below_step HB.out HB2.out⟩
        · skip
          by_cases c4 : x.f0.toList = [110, 111, 116]
          · have f00 : (x.f0.toList == [118, 97, 108]) = false := beq_eq_false_iff_ne.mpr c0
            have f10 : (x.f0.toList == [99, 111, 108]) = false := beq_eq_false_iff_ne.mpr c1
            have f20 : (x.f0.toList == [111, 114]) = false := beq_eq_false_iff_ne.mpr c2
            have f30 : (x.f0.toList == [97, 110, 100]) = false := beq_eq_false_iff_ne.mpr c3
            have f41 : (x.f0.toList == [110, 111, 116]) = true := beq_iff_eq.mpr c4
            have e0 := txt_eq x
            unfold txtB at e0
            rw [if_neg c0, if_neg c1, if_neg c2, if_neg c3, if_pos c4] at e0
            simp only [← inn_def] at e0
            clear c0 c1 c2 c3 c4
            have hz : 4 + (inn x.f3 0).size ≤ 1000000000 := by
              have h1 := HZ.out
              rw [e0] at h1
              simp only [ByteArray.size_append, (show (⟨#[32]⟩ : ByteArray).size = 1 from rfl), (show (⟨#[110, 111, 116, 32]⟩ : ByteArray).size = 4 from rfl), (show (⟨#[45]⟩ : ByteArray).size = 1 from rfl), (show (⟨#[32, 105, 115, 32, 110, 117, 108, 108]⟩ : ByteArray).size = 8 from rfl)] at h1
              exact h1
            have HZ0 := Aside0.mk (show (inn x.f3 0).size ≤ 1000000000 by omega)
            have t0 : (9223372036854775807 < 4 + (inn x.f3 0).size) = False := eq_false (by omega)
            have HT0 := Aside0.mk e0
            clear e0
            go_wp2_with (first | (go_at_call 104; refine (ih x _ A c 0 0 rfl (by omega) HX.out HT.out HZ0.out HL.out HC.out).mono ?_; rintro e1 w1 ⟨rfl, hb⟩; have HB1 := Aside0.mk hb; clear hb))
            go_ret
            exact ⟨by rw [HT0.out]; rfl, below_step HB.out HB1.out⟩
          · skip
            by_cases c5 : x.f0.toList = [110, 101, 103]
            · have f00 : (x.f0.toList == [118, 97, 108]) = false := beq_eq_false_iff_ne.mpr c0
              have f10 : (x.f0.toList == [99, 111, 108]) = false := beq_eq_false_iff_ne.mpr c1
              have f20 : (x.f0.toList == [111, 114]) = false := beq_eq_false_iff_ne.mpr c2
              have f30 : (x.f0.toList == [97, 110, 100]) = false := beq_eq_false_iff_ne.mpr c3
              have f40 : (x.f0.toList == [110, 111, 116]) = false := beq_eq_false_iff_ne.mpr c4
              have f51 : (x.f0.toList == [110, 101, 103]) = true := beq_iff_eq.mpr c5
              have e0 := txt_eq x
              unfold txtB at e0
              rw [if_neg c0, if_neg c1, if_neg c2, if_neg c3, if_neg c4, if_pos c5] at e0
              simp only [← inn_def] at e0
              clear c0 c1 c2 c3 c4 c5
              have hz : 1 + (inn x.f3 0).size ≤ 1000000000 := by
                have h1 := HZ.out
                rw [e0] at h1
                simp only [ByteArray.size_append, (show (⟨#[32]⟩ : ByteArray).size = 1 from rfl), (show (⟨#[110, 111, 116, 32]⟩ : ByteArray).size = 4 from rfl), (show (⟨#[45]⟩ : ByteArray).size = 1 from rfl), (show (⟨#[32, 105, 115, 32, 110, 117, 108, 108]⟩ : ByteArray).size = 8 from rfl)] at h1
                exact h1
              have HZ0 := Aside0.mk (show (inn x.f3 0).size ≤ 1000000000 by omega)
              have t0 : (9223372036854775807 < 1 + (inn x.f3 0).size) = False := eq_false (by omega)
              have HT0 := Aside0.mk e0
              clear e0
              go_wp2_with (first | (go_at_call 104; refine (ih x _ A c 0 0 rfl (by omega) HX.out HT.out HZ0.out HL.out HC.out).mono ?_; rintro e1 w1 ⟨rfl, hb⟩; have HB1 := Aside0.mk hb; clear hb))
              go_ret
              exact ⟨by rw [HT0.out]; rfl, below_step HB.out HB1.out⟩
            · skip
              by_cases c6 : x.f0.toList = [105, 115, 110, 117, 108, 108]
              · have f00 : (x.f0.toList == [118, 97, 108]) = false := beq_eq_false_iff_ne.mpr c0
                have f10 : (x.f0.toList == [99, 111, 108]) = false := beq_eq_false_iff_ne.mpr c1
                have f20 : (x.f0.toList == [111, 114]) = false := beq_eq_false_iff_ne.mpr c2
                have f30 : (x.f0.toList == [97, 110, 100]) = false := beq_eq_false_iff_ne.mpr c3
                have f40 : (x.f0.toList == [110, 111, 116]) = false := beq_eq_false_iff_ne.mpr c4
                have f50 : (x.f0.toList == [110, 101, 103]) = false := beq_eq_false_iff_ne.mpr c5
                have f61 : (x.f0.toList == [105, 115, 110, 117, 108, 108]) = true := beq_iff_eq.mpr c6
                have e0 := txt_eq x
                unfold txtB at e0
                rw [if_neg c0, if_neg c1, if_neg c2, if_neg c3, if_neg c4, if_neg c5, if_pos c6] at e0
                simp only [← inn_def] at e0
                clear c0 c1 c2 c3 c4 c5 c6
                have hz : (inn x.f3 0).size + 8 ≤ 1000000000 := by
                  have h1 := HZ.out
                  rw [e0] at h1
                  simp only [ByteArray.size_append, (show (⟨#[32]⟩ : ByteArray).size = 1 from rfl), (show (⟨#[110, 111, 116, 32]⟩ : ByteArray).size = 4 from rfl), (show (⟨#[45]⟩ : ByteArray).size = 1 from rfl), (show (⟨#[32, 105, 115, 32, 110, 117, 108, 108]⟩ : ByteArray).size = 8 from rfl)] at h1
                  exact h1
                have HZ0 := Aside0.mk (show (inn x.f3 0).size ≤ 1000000000 by omega)
                have t0 : (9223372036854775807 < (inn x.f3 0).size + 8) = False := eq_false (by omega)
                have HT0 := Aside0.mk e0
                clear e0
                go_wp2_with (first | (go_at_call 104; refine (ih x _ A c 0 0 rfl (by omega) HX.out HT.out HZ0.out HL.out HC.out).mono ?_; rintro e1 w1 ⟨rfl, hb⟩; have HB1 := Aside0.mk hb; clear hb))
                go_ret
                exact ⟨by rw [HT0.out]; rfl, below_step HB.out HB1.out⟩
              · skip
                by_cases c7 : x.f0.toList = [99, 111, 117, 110, 116]
                · have f00 : (x.f0.toList == [118, 97, 108]) = false := beq_eq_false_iff_ne.mpr c0
                  have f10 : (x.f0.toList == [99, 111, 108]) = false := beq_eq_false_iff_ne.mpr c1
                  have f20 : (x.f0.toList == [111, 114]) = false := beq_eq_false_iff_ne.mpr c2
                  have f30 : (x.f0.toList == [97, 110, 100]) = false := beq_eq_false_iff_ne.mpr c3
                  have f40 : (x.f0.toList == [110, 111, 116]) = false := beq_eq_false_iff_ne.mpr c4
                  have f50 : (x.f0.toList == [110, 101, 103]) = false := beq_eq_false_iff_ne.mpr c5
                  have f60 : (x.f0.toList == [105, 115, 110, 117, 108, 108]) = false := beq_eq_false_iff_ne.mpr c6
                  have f71 : (x.f0.toList == [99, 111, 117, 110, 116]) = true := beq_iff_eq.mpr c7
                  have e0 := txt_eq x
                  unfold txtB at e0
                  rw [if_neg c0, if_neg c1, if_neg c2, if_neg c3, if_neg c4, if_neg c5, if_neg c6, if_pos c7] at e0
                  clear c0 c1 c2 c3 c4 c5 c6 c7
                  have HT0 := Aside0.mk e0
                  clear e0
                  go_wp2
                  go_ret
                  exact ⟨by rw [HT0.out]; rfl, HB.out⟩
                · skip
                  by_cases c8 : x.f0.toList = [115, 117, 109]
                  · have f00 : (x.f0.toList == [118, 97, 108]) = false := beq_eq_false_iff_ne.mpr c0
                    have f10 : (x.f0.toList == [99, 111, 108]) = false := beq_eq_false_iff_ne.mpr c1
                    have f20 : (x.f0.toList == [111, 114]) = false := beq_eq_false_iff_ne.mpr c2
                    have f30 : (x.f0.toList == [97, 110, 100]) = false := beq_eq_false_iff_ne.mpr c3
                    have f40 : (x.f0.toList == [110, 111, 116]) = false := beq_eq_false_iff_ne.mpr c4
                    have f50 : (x.f0.toList == [110, 101, 103]) = false := beq_eq_false_iff_ne.mpr c5
                    have f60 : (x.f0.toList == [105, 115, 110, 117, 108, 108]) = false := beq_eq_false_iff_ne.mpr c6
                    have f70 : (x.f0.toList == [99, 111, 117, 110, 116]) = false := beq_eq_false_iff_ne.mpr c7
                    have f81 : (x.f0.toList == [115, 117, 109]) = true := beq_iff_eq.mpr c8
                    have e0 := txt_eq x
                    unfold txtB at e0
                    rw [if_neg c0, if_neg c1, if_neg c2, if_neg c3, if_neg c4, if_neg c5, if_neg c6, if_neg c7, if_pos c8] at e0
                    simp only [← inn_def] at e0
                    clear c0 c1 c2 c3 c4 c5 c6 c7 c8
                    have hz : x.f0.size + (inn x.f3 0).size ≤ 1000000000 := by
                      have h1 := HZ.out
                      rw [e0] at h1
                      simp only [ByteArray.size_append, (show (⟨#[32]⟩ : ByteArray).size = 1 from rfl), (show (⟨#[110, 111, 116, 32]⟩ : ByteArray).size = 4 from rfl), (show (⟨#[45]⟩ : ByteArray).size = 1 from rfl), (show (⟨#[32, 105, 115, 32, 110, 117, 108, 108]⟩ : ByteArray).size = 8 from rfl)] at h1
                      exact h1
                    have HZ0 := Aside0.mk (show (inn x.f3 0).size ≤ 1000000000 by omega)
                    have t0 : (9223372036854775807 < x.f0.size + (inn x.f3 0).size) = False := eq_false (by omega)
                    have HT0 := Aside0.mk e0
                    clear e0
                    go_upto_region 25 with (fail)
                    refine start_ (n := 6) (S := fun w' => w'.cell? ⟨b, 0, none⟩ = some (.string x.f0) ∧ w'.cell? ⟨b, 1, none⟩ = some (.int .i64 x.f1.f0) ∧ w'.cell? ⟨b, 2, none⟩ = some (.int .i64 x.f1.f1) ∧ w'.cell? ⟨b, 3, none⟩ = some (.string x.f1.f2) ∧ w'.cell? ⟨b, 4, none⟩ = some (.string x.f2) ∧ w'.cell? ⟨b, 5, none⟩ = some (.slice A x.f3.length c) ∧ Below W.heap.size W w') (ds := []) #[false, false, false, false, false, false] (by kernel_rfl) rfl rfl ⟨cc0, cc1, cc2, cc3, cc4, cc5, below_drew1 (Below.refl _ _)⟩ (fun hHeld => ?_)
                    refine pure_ (i := 0) (N := some 60) (v := ?_) (a' := ?_) #[true, false, false, false, false, false] rfl rfl (by kernel_rfl) (fun _ _ _ h => h) (Or.inl ⟨by rfl, ?_⟩) ?_ ?_
                    rotate_left
                    · intro w'
                      go_simp
                      with_reducible rfl
                    rotate_left
                    · simp only [Act.put, List.setIfInBounds_toArray, List.set_cons_zero, List.set_cons_succ, i64_w, i32_w]
                      rfl
                    refine take_ (i := 1) (N := some 61) (v := ?_) (a' := ?_) #[true, true, false, false, false, false] rfl rfl (by kernel_rfl) (fun _ _ _ h => h) (Or.inl ⟨by rfl, ?_⟩) hHeld ?_ ?_
                    rotate_left
                    · rintro w' ⟨s0, s1, s2, s3, s4, s5, _⟩
                      go_simp
                      with_reducible rfl
                    rotate_left
                    · simp only [Act.put, List.setIfInBounds_toArray, List.set_cons_zero, List.set_cons_succ, i64_w, i32_w]
                      rfl
                    refine take_ (i := 2) (N := some 62) (v := ?_) (a' := ?_) #[true, true, true, false, false, false] rfl rfl (by kernel_rfl) (fun _ _ _ h => h) (Or.inl ⟨by rfl, ?_⟩) hHeld ?_ ?_
                    rotate_left
                    · rintro w' ⟨s0, s1, s2, s3, s4, s5, _⟩
                      go_simp
                      with_reducible rfl
                    rotate_left
                    · simp only [Act.put, List.setIfInBounds_toArray, List.set_cons_zero, List.set_cons_succ, i64_w, i32_w]
                      rfl
                    refine one_ (i := 3) (N := some 63) #[true, true, true, true, false, false] rfl rfl (by kernel_rfl) (by decide) (fun K hK => ?_)
                    refine goes_ Tryz.func104 (by kernel_rfl) rfl #[.agg (cells43 x A c).toArray, .int .i64 0] (by rfl) rfl rfl (by (try simp only [List.map_toArray, List.map_cons, List.map_nil]); first | done | rfl) ?_
                    refine (ih x _ A c 0 0 rfl (by omega) HX.out HT.out HZ0.out HL.out (Kd.C_below HC.out (below_drew1 (Below.refl W.heap.size W)))).mono ?_
                    rintro e1 w1 ⟨rfl, hb⟩
                    have HB1 := Aside0.mk (below_step (below_drew1 (Below.refl W.heap.size W)) hb)
                    refine ⟨_, rfl, ?_⟩
                    clear hb
                    have z10 := pw_cell_below HB1.out cc0
                    have z11 := pw_cell_below HB1.out cc1
                    have z12 := pw_cell_below HB1.out cc2
                    have z13 := pw_cell_below HB1.out cc3
                    have z14 := pw_cell_below HB1.out cc4
                    have z15 := pw_cell_below HB1.out cc5
                    refine hK.out _ _ ⟨z10, z11, z12, z13, z14, z15, HB1.out⟩ (fun hHeld => ?_)
                    clear hK K
                    refine norm_ (a' := ?_) ?_ ?_
                    rotate_left
                    · show Act.put _ (some 63) _ = _
                      simp only [Act.put, List.setIfInBounds_toArray, List.set_cons_zero, List.set_cons_succ, i64_w, i32_w]
                      rfl
                    clear z10 z11 z12 z13 z14 z15
                    refine pure_ (i := 4) (N := some 64) (v := ?_) (a' := ?_) #[true, true, true, true, true, false] rfl rfl (by kernel_rfl) (fun _ _ _ h => h) (Or.inl ⟨by rfl, ?_⟩) ?_ ?_
                    rotate_left
                    · intro w'
                      go_simp
                      with_reducible rfl
                    rotate_left
                    · simp only [Act.put, List.setIfInBounds_toArray, List.set_cons_zero, List.set_cons_succ, i64_w, i32_w]
                      rfl
                    refine pure_ (i := 5) (N := some 2) (v := ?_) (a' := ?_) #[true, true, true, true, true, true] rfl rfl (by kernel_rfl) (fun _ _ _ h => h) (Or.inl ⟨by rfl, ?_⟩) ?_ ?_
                    rotate_left
                    · intro w'
                      go_simp
                      with_reducible rfl
                    rotate_left
                    · simp only [Act.put, List.setIfInBounds_toArray, List.set_cons_zero, List.set_cons_succ, i64_w, i32_w]
                      rfl
                    refine done_ (by kernel_rfl) ?_
                    go_wp2
                    go_ret
                    exact ⟨by rw [HT0.out]; rfl, below_step HB.out HB1.out⟩
                  · skip
                    by_cases c9 : x.f0.toList = [109, 105, 110]
                    · have f00 : (x.f0.toList == [118, 97, 108]) = false := beq_eq_false_iff_ne.mpr c0
                      have f10 : (x.f0.toList == [99, 111, 108]) = false := beq_eq_false_iff_ne.mpr c1
                      have f20 : (x.f0.toList == [111, 114]) = false := beq_eq_false_iff_ne.mpr c2
                      have f30 : (x.f0.toList == [97, 110, 100]) = false := beq_eq_false_iff_ne.mpr c3
                      have f40 : (x.f0.toList == [110, 111, 116]) = false := beq_eq_false_iff_ne.mpr c4
                      have f50 : (x.f0.toList == [110, 101, 103]) = false := beq_eq_false_iff_ne.mpr c5
                      have f60 : (x.f0.toList == [105, 115, 110, 117, 108, 108]) = false := beq_eq_false_iff_ne.mpr c6
                      have f70 : (x.f0.toList == [99, 111, 117, 110, 116]) = false := beq_eq_false_iff_ne.mpr c7
                      have f80 : (x.f0.toList == [115, 117, 109]) = false := beq_eq_false_iff_ne.mpr c8
                      have f91 : (x.f0.toList == [109, 105, 110]) = true := beq_iff_eq.mpr c9
                      have e0 := txt_eq x
                      unfold txtB at e0
                      rw [if_neg c0, if_neg c1, if_neg c2, if_neg c3, if_neg c4, if_neg c5, if_neg c6, if_neg c7, if_neg c8, if_pos c9] at e0
                      simp only [← inn_def] at e0
                      clear c0 c1 c2 c3 c4 c5 c6 c7 c8 c9
                      have hz : x.f0.size + (inn x.f3 0).size ≤ 1000000000 := by
                        have h1 := HZ.out
                        rw [e0] at h1
                        simp only [ByteArray.size_append, (show (⟨#[32]⟩ : ByteArray).size = 1 from rfl), (show (⟨#[110, 111, 116, 32]⟩ : ByteArray).size = 4 from rfl), (show (⟨#[45]⟩ : ByteArray).size = 1 from rfl), (show (⟨#[32, 105, 115, 32, 110, 117, 108, 108]⟩ : ByteArray).size = 8 from rfl)] at h1
                        exact h1
                      have HZ0 := Aside0.mk (show (inn x.f3 0).size ≤ 1000000000 by omega)
                      have t0 : (9223372036854775807 < x.f0.size + (inn x.f3 0).size) = False := eq_false (by omega)
                      have HT0 := Aside0.mk e0
                      clear e0
                      go_upto_region 25 with (fail)
                      refine start_ (n := 6) (S := fun w' => w'.cell? ⟨b, 0, none⟩ = some (.string x.f0) ∧ w'.cell? ⟨b, 1, none⟩ = some (.int .i64 x.f1.f0) ∧ w'.cell? ⟨b, 2, none⟩ = some (.int .i64 x.f1.f1) ∧ w'.cell? ⟨b, 3, none⟩ = some (.string x.f1.f2) ∧ w'.cell? ⟨b, 4, none⟩ = some (.string x.f2) ∧ w'.cell? ⟨b, 5, none⟩ = some (.slice A x.f3.length c) ∧ Below W.heap.size W w') (ds := []) #[false, false, false, false, false, false] (by kernel_rfl) rfl rfl ⟨cc0, cc1, cc2, cc3, cc4, cc5, below_drew1 (Below.refl _ _)⟩ (fun hHeld => ?_)
                      refine pure_ (i := 0) (N := some 60) (v := ?_) (a' := ?_) #[true, false, false, false, false, false] rfl rfl (by kernel_rfl) (fun _ _ _ h => h) (Or.inl ⟨by rfl, ?_⟩) ?_ ?_
                      rotate_left
                      · intro w'
                        go_simp
                        with_reducible rfl
                      rotate_left
                      · simp only [Act.put, List.setIfInBounds_toArray, List.set_cons_zero, List.set_cons_succ, i64_w, i32_w]
                        rfl
                      refine take_ (i := 1) (N := some 61) (v := ?_) (a' := ?_) #[true, true, false, false, false, false] rfl rfl (by kernel_rfl) (fun _ _ _ h => h) (Or.inl ⟨by rfl, ?_⟩) hHeld ?_ ?_
                      rotate_left
                      · rintro w' ⟨s0, s1, s2, s3, s4, s5, _⟩
                        go_simp
                        with_reducible rfl
                      rotate_left
                      · simp only [Act.put, List.setIfInBounds_toArray, List.set_cons_zero, List.set_cons_succ, i64_w, i32_w]
                        rfl
                      refine take_ (i := 2) (N := some 62) (v := ?_) (a' := ?_) #[true, true, true, false, false, false] rfl rfl (by kernel_rfl) (fun _ _ _ h => h) (Or.inl ⟨by rfl, ?_⟩) hHeld ?_ ?_
                      rotate_left
                      · rintro w' ⟨s0, s1, s2, s3, s4, s5, _⟩
                        go_simp
                        with_reducible rfl
                      rotate_left
                      · simp only [Act.put, List.setIfInBounds_toArray, List.set_cons_zero, List.set_cons_succ, i64_w, i32_w]
                        rfl
                      refine one_ (i := 3) (N := some 63) #[true, true, true, true, false, false] rfl rfl (by kernel_rfl) (by decide) (fun K hK => ?_)
                      refine goes_ Tryz.func104 (by kernel_rfl) rfl #[.agg (cells43 x A c).toArray, .int .i64 0] (by rfl) rfl rfl (by (try simp only [List.map_toArray, List.map_cons, List.map_nil]); first | done | rfl) ?_
                      refine (ih x _ A c 0 0 rfl (by omega) HX.out HT.out HZ0.out HL.out (Kd.C_below HC.out (below_drew1 (Below.refl W.heap.size W)))).mono ?_
                      rintro e1 w1 ⟨rfl, hb⟩
                      have HB1 := Aside0.mk (below_step (below_drew1 (Below.refl W.heap.size W)) hb)
                      refine ⟨_, rfl, ?_⟩
                      clear hb
                      have z10 := pw_cell_below HB1.out cc0
                      have z11 := pw_cell_below HB1.out cc1
                      have z12 := pw_cell_below HB1.out cc2
                      have z13 := pw_cell_below HB1.out cc3
                      have z14 := pw_cell_below HB1.out cc4
                      have z15 := pw_cell_below HB1.out cc5
                      refine hK.out _ _ ⟨z10, z11, z12, z13, z14, z15, HB1.out⟩ (fun hHeld => ?_)
                      clear hK K
                      refine norm_ (a' := ?_) ?_ ?_
                      rotate_left
                      · show Act.put _ (some 63) _ = _
                        simp only [Act.put, List.setIfInBounds_toArray, List.set_cons_zero, List.set_cons_succ, i64_w, i32_w]
                        rfl
                      clear z10 z11 z12 z13 z14 z15
                      refine pure_ (i := 4) (N := some 64) (v := ?_) (a' := ?_) #[true, true, true, true, true, false] rfl rfl (by kernel_rfl) (fun _ _ _ h => h) (Or.inl ⟨by rfl, ?_⟩) ?_ ?_
                      rotate_left
                      · intro w'
                        go_simp
                        with_reducible rfl
                      rotate_left
                      · simp only [Act.put, List.setIfInBounds_toArray, List.set_cons_zero, List.set_cons_succ, i64_w, i32_w]
                        rfl
                      refine pure_ (i := 5) (N := some 2) (v := ?_) (a' := ?_) #[true, true, true, true, true, true] rfl rfl (by kernel_rfl) (fun _ _ _ h => h) (Or.inl ⟨by rfl, ?_⟩) ?_ ?_
                      rotate_left
                      · intro w'
                        go_simp
                        with_reducible rfl
                      rotate_left
                      · simp only [Act.put, List.setIfInBounds_toArray, List.set_cons_zero, List.set_cons_succ, i64_w, i32_w]
                        rfl
                      refine done_ (by kernel_rfl) ?_
                      go_wp2
                      go_ret
                      exact ⟨by rw [HT0.out]; rfl, below_step HB.out HB1.out⟩
                    · skip
                      by_cases c10 : x.f0.toList = [109, 97, 120]
                      · have f00 : (x.f0.toList == [118, 97, 108]) = false := beq_eq_false_iff_ne.mpr c0
                        have f10 : (x.f0.toList == [99, 111, 108]) = false := beq_eq_false_iff_ne.mpr c1
                        have f20 : (x.f0.toList == [111, 114]) = false := beq_eq_false_iff_ne.mpr c2
                        have f30 : (x.f0.toList == [97, 110, 100]) = false := beq_eq_false_iff_ne.mpr c3
                        have f40 : (x.f0.toList == [110, 111, 116]) = false := beq_eq_false_iff_ne.mpr c4
                        have f50 : (x.f0.toList == [110, 101, 103]) = false := beq_eq_false_iff_ne.mpr c5
                        have f60 : (x.f0.toList == [105, 115, 110, 117, 108, 108]) = false := beq_eq_false_iff_ne.mpr c6
                        have f70 : (x.f0.toList == [99, 111, 117, 110, 116]) = false := beq_eq_false_iff_ne.mpr c7
                        have f80 : (x.f0.toList == [115, 117, 109]) = false := beq_eq_false_iff_ne.mpr c8
                        have f90 : (x.f0.toList == [109, 105, 110]) = false := beq_eq_false_iff_ne.mpr c9
                        have f101 : (x.f0.toList == [109, 97, 120]) = true := beq_iff_eq.mpr c10
                        have e0 := txt_eq x
                        unfold txtB at e0
                        rw [if_neg c0, if_neg c1, if_neg c2, if_neg c3, if_neg c4, if_neg c5, if_neg c6, if_neg c7, if_neg c8, if_neg c9, if_pos c10] at e0
                        simp only [← inn_def] at e0
                        clear c0 c1 c2 c3 c4 c5 c6 c7 c8 c9 c10
                        have hz : x.f0.size + (inn x.f3 0).size ≤ 1000000000 := by
                          have h1 := HZ.out
                          rw [e0] at h1
                          simp only [ByteArray.size_append, (show (⟨#[32]⟩ : ByteArray).size = 1 from rfl), (show (⟨#[110, 111, 116, 32]⟩ : ByteArray).size = 4 from rfl), (show (⟨#[45]⟩ : ByteArray).size = 1 from rfl), (show (⟨#[32, 105, 115, 32, 110, 117, 108, 108]⟩ : ByteArray).size = 8 from rfl)] at h1
                          exact h1
                        have HZ0 := Aside0.mk (show (inn x.f3 0).size ≤ 1000000000 by omega)
                        have t0 : (9223372036854775807 < x.f0.size + (inn x.f3 0).size) = False := eq_false (by omega)
                        have HT0 := Aside0.mk e0
                        clear e0
                        go_upto_region 25 with (fail)
                        refine start_ (n := 6) (S := fun w' => w'.cell? ⟨b, 0, none⟩ = some (.string x.f0) ∧ w'.cell? ⟨b, 1, none⟩ = some (.int .i64 x.f1.f0) ∧ w'.cell? ⟨b, 2, none⟩ = some (.int .i64 x.f1.f1) ∧ w'.cell? ⟨b, 3, none⟩ = some (.string x.f1.f2) ∧ w'.cell? ⟨b, 4, none⟩ = some (.string x.f2) ∧ w'.cell? ⟨b, 5, none⟩ = some (.slice A x.f3.length c) ∧ Below W.heap.size W w') (ds := []) #[false, false, false, false, false, false] (by kernel_rfl) rfl rfl ⟨cc0, cc1, cc2, cc3, cc4, cc5, below_drew1 (Below.refl _ _)⟩ (fun hHeld => ?_)
                        refine pure_ (i := 0) (N := some 60) (v := ?_) (a' := ?_) #[true, false, false, false, false, false] rfl rfl (by kernel_rfl) (fun _ _ _ h => h) (Or.inl ⟨by rfl, ?_⟩) ?_ ?_
                        rotate_left
                        · intro w'
                          go_simp
                          with_reducible rfl
                        rotate_left
                        · simp only [Act.put, List.setIfInBounds_toArray, List.set_cons_zero, List.set_cons_succ, i64_w, i32_w]
                          rfl
                        refine take_ (i := 1) (N := some 61) (v := ?_) (a' := ?_) #[true, true, false, false, false, false] rfl rfl (by kernel_rfl) (fun _ _ _ h => h) (Or.inl ⟨by rfl, ?_⟩) hHeld ?_ ?_
                        rotate_left
                        · rintro w' ⟨s0, s1, s2, s3, s4, s5, _⟩
                          go_simp
                          with_reducible rfl
                        rotate_left
                        · simp only [Act.put, List.setIfInBounds_toArray, List.set_cons_zero, List.set_cons_succ, i64_w, i32_w]
                          rfl
                        refine take_ (i := 2) (N := some 62) (v := ?_) (a' := ?_) #[true, true, true, false, false, false] rfl rfl (by kernel_rfl) (fun _ _ _ h => h) (Or.inl ⟨by rfl, ?_⟩) hHeld ?_ ?_
                        rotate_left
                        · rintro w' ⟨s0, s1, s2, s3, s4, s5, _⟩
                          go_simp
                          with_reducible rfl
                        rotate_left
                        · simp only [Act.put, List.setIfInBounds_toArray, List.set_cons_zero, List.set_cons_succ, i64_w, i32_w]
                          rfl
                        refine one_ (i := 3) (N := some 63) #[true, true, true, true, false, false] rfl rfl (by kernel_rfl) (by decide) (fun K hK => ?_)
                        refine goes_ Tryz.func104 (by kernel_rfl) rfl #[.agg (cells43 x A c).toArray, .int .i64 0] (by rfl) rfl rfl (by (try simp only [List.map_toArray, List.map_cons, List.map_nil]); first | done | rfl) ?_
                        refine (ih x _ A c 0 0 rfl (by omega) HX.out HT.out HZ0.out HL.out (Kd.C_below HC.out (below_drew1 (Below.refl W.heap.size W)))).mono ?_
                        rintro e1 w1 ⟨rfl, hb⟩
                        have HB1 := Aside0.mk (below_step (below_drew1 (Below.refl W.heap.size W)) hb)
                        refine ⟨_, rfl, ?_⟩
                        clear hb
                        have z10 := pw_cell_below HB1.out cc0
                        have z11 := pw_cell_below HB1.out cc1
                        have z12 := pw_cell_below HB1.out cc2
                        have z13 := pw_cell_below HB1.out cc3
                        have z14 := pw_cell_below HB1.out cc4
                        have z15 := pw_cell_below HB1.out cc5
                        refine hK.out _ _ ⟨z10, z11, z12, z13, z14, z15, HB1.out⟩ (fun hHeld => ?_)
                        clear hK K
                        refine norm_ (a' := ?_) ?_ ?_
                        rotate_left
                        · show Act.put _ (some 63) _ = _
                          simp only [Act.put, List.setIfInBounds_toArray, List.set_cons_zero, List.set_cons_succ, i64_w, i32_w]
                          rfl
                        clear z10 z11 z12 z13 z14 z15
                        refine pure_ (i := 4) (N := some 64) (v := ?_) (a' := ?_) #[true, true, true, true, true, false] rfl rfl (by kernel_rfl) (fun _ _ _ h => h) (Or.inl ⟨by rfl, ?_⟩) ?_ ?_
                        rotate_left
                        · intro w'
                          go_simp
                          with_reducible rfl
                        rotate_left
                        · simp only [Act.put, List.setIfInBounds_toArray, List.set_cons_zero, List.set_cons_succ, i64_w, i32_w]
                          rfl
                        refine pure_ (i := 5) (N := some 2) (v := ?_) (a' := ?_) #[true, true, true, true, true, true] rfl rfl (by kernel_rfl) (fun _ _ _ h => h) (Or.inl ⟨by rfl, ?_⟩) ?_ ?_
                        rotate_left
                        · intro w'
                          go_simp
                          with_reducible rfl
                        rotate_left
                        · simp only [Act.put, List.setIfInBounds_toArray, List.set_cons_zero, List.set_cons_succ, i64_w, i32_w]
                          rfl
                        refine done_ (by kernel_rfl) ?_
                        go_wp2
                        go_ret
                        exact ⟨by rw [HT0.out]; rfl, below_step HB.out HB1.out⟩
                      · skip
                        by_cases hB : bigB x.f0 = true
                        · have hm := bigB_mem hB
                          have f00 : (x.f0.toList == [118, 97, 108]) = false := beq_eq_false_iff_ne.mpr c0
                          have f10 : (x.f0.toList == [99, 111, 108]) = false := beq_eq_false_iff_ne.mpr c1
                          have f20 : (x.f0.toList == [111, 114]) = false := beq_eq_false_iff_ne.mpr c2
                          have f30 : (x.f0.toList == [97, 110, 100]) = false := beq_eq_false_iff_ne.mpr c3
                          have f40 : (x.f0.toList == [110, 111, 116]) = false := beq_eq_false_iff_ne.mpr c4
                          have f50 : (x.f0.toList == [110, 101, 103]) = false := beq_eq_false_iff_ne.mpr c5
                          have f60 : (x.f0.toList == [105, 115, 110, 117, 108, 108]) = false := beq_eq_false_iff_ne.mpr c6
                          have f70 : (x.f0.toList == [99, 111, 117, 110, 116]) = false := beq_eq_false_iff_ne.mpr c7
                          have f80 : (x.f0.toList == [115, 117, 109]) = false := beq_eq_false_iff_ne.mpr c8
                          have f90 : (x.f0.toList == [109, 105, 110]) = false := beq_eq_false_iff_ne.mpr c9
                          have f100 : (x.f0.toList == [109, 97, 120]) = false := beq_eq_false_iff_ne.mpr c10
                          have e0 := txt_eq x
                          unfold txtB at e0
                          rw [if_neg c0, if_neg c1, if_neg c2, if_neg c3, if_neg c4, if_neg c5, if_neg c6, if_neg c7, if_neg c8, if_neg c9, if_neg c10, if_pos hB] at e0
                          simp only [← inn_def] at e0
                          clear c0 c1 c2 c3 c4 c5 c6 c7 c8 c9 c10
                          clear hB
                          have hz : (inn x.f3 0).size + x.f0.size + (inn x.f3 1).size ≤ 1000000000 := by
                            have h1 := HZ.out
                            rw [e0] at h1
                            simp only [ByteArray.size_append, (show (⟨#[32]⟩ : ByteArray).size = 1 from rfl), (show (⟨#[110, 111, 116, 32]⟩ : ByteArray).size = 4 from rfl), (show (⟨#[45]⟩ : ByteArray).size = 1 from rfl), (show (⟨#[32, 105, 115, 32, 110, 117, 108, 108]⟩ : ByteArray).size = 8 from rfl)] at h1
                            exact h1
                          have HZ0 := Aside0.mk (show (inn x.f3 0).size ≤ 1000000000 by omega)
                          have HZ1 := Aside0.mk (show (inn x.f3 1).size ≤ 1000000000 by omega)
                          have t0 : (9223372036854775807 < (inn x.f3 0).size + x.f0.size) = False := eq_false (by omega)
                          have t1 : (9223372036854775807 < (inn x.f3 0).size + x.f0.size + (inn x.f3 1).size) = False := eq_false (by omega)
                          have HT0 := Aside0.mk e0
                          clear e0
                          rcases hm with hm | hm | hm | hm | hm | hm | hm | hm | hm | hm | hm | hm
                          · have g0 : (x.f0.toList == [61]) = true := by rw [hm]; decide
                            clear hm
                            go_upto_region 38 with (fail)
                            refine start_ (n := 9) (S := fun w' => w'.cell? ⟨b, 0, none⟩ = some (.string x.f0) ∧ w'.cell? ⟨b, 1, none⟩ = some (.int .i64 x.f1.f0) ∧ w'.cell? ⟨b, 2, none⟩ = some (.int .i64 x.f1.f1) ∧ w'.cell? ⟨b, 3, none⟩ = some (.string x.f1.f2) ∧ w'.cell? ⟨b, 4, none⟩ = some (.string x.f2) ∧ w'.cell? ⟨b, 5, none⟩ = some (.slice A x.f3.length c) ∧ Below W.heap.size W w') (ds := []) #[false, false, false, false, false, false, false, false, false] (by kernel_rfl) rfl rfl ⟨cc0, cc1, cc2, cc3, cc4, cc5, below_drew1 (Below.refl _ _)⟩ (fun hHeld => ?_)
                            refine pure_ (i := 2) (N := some 80) (v := ?_) (a' := ?_) #[false, false, true, false, false, false, false, false, false] rfl rfl (by kernel_rfl) (fun _ _ _ h => h) (Or.inl ⟨by rfl, ?_⟩) ?_ ?_
                            rotate_left
                            · intro w'
                              go_simp
                              with_reducible rfl
                            rotate_left
                            · simp only [Act.put, List.setIfInBounds_toArray, List.set_cons_zero, List.set_cons_succ, i64_w, i32_w]
                              rfl
                            refine take_ (i := 0) (N := some 78) (v := ?_) (a' := ?_) #[true, false, true, false, false, false, false, false, false] rfl rfl (by kernel_rfl) (fun _ _ _ h => h) (Or.inl ⟨by rfl, ?_⟩) hHeld ?_ ?_
                            rotate_left
                            · rintro w' ⟨s0, s1, s2, s3, s4, s5, _⟩
                              go_simp
                              with_reducible rfl
                            rotate_left
                            · simp only [Act.put, List.setIfInBounds_toArray, List.set_cons_zero, List.set_cons_succ, i64_w, i32_w]
                              rfl
                            refine take_ (i := 5) (N := some 83) (v := ?_) (a' := ?_) #[true, false, true, false, false, true, false, false, false] rfl rfl (by kernel_rfl) (fun _ _ _ h => h) (Or.inl ⟨by rfl, ?_⟩) hHeld ?_ ?_
                            rotate_left
                            · rintro w' ⟨s0, s1, s2, s3, s4, s5, _⟩
                              go_simp
                              with_reducible rfl
                            rotate_left
                            · simp only [Act.put, List.setIfInBounds_toArray, List.set_cons_zero, List.set_cons_succ, i64_w, i32_w]
                              rfl
                            refine take_ (i := 3) (N := some 81) (v := ?_) (a' := ?_) #[true, false, true, true, false, true, false, false, false] rfl rfl (by kernel_rfl) (fun _ _ _ h => h) (Or.inl ⟨by rfl, ?_⟩) hHeld ?_ ?_
                            rotate_left
                            · rintro w' ⟨s0, s1, s2, s3, s4, s5, _⟩
                              go_simp
                              with_reducible rfl
                            rotate_left
                            · simp only [Act.put, List.setIfInBounds_toArray, List.set_cons_zero, List.set_cons_succ, i64_w, i32_w]
                              rfl
                            refine one_ (i := 1) (N := some 79) #[true, true, true, true, false, true, false, false, false] rfl rfl (by kernel_rfl) (by decide) (fun K hK => ?_)
                            refine goes_ Tryz.func104 (by kernel_rfl) rfl #[.agg (cells43 x A c).toArray, .int .i64 0] (by rfl) rfl rfl (by (try simp only [List.map_toArray, List.map_cons, List.map_nil]); first | done | rfl) ?_
                            refine (ih x _ A c 0 0 rfl (by omega) HX.out HT.out HZ0.out HL.out (Kd.C_below HC.out (below_drew1 (Below.refl W.heap.size W)))).mono ?_
                            rintro e1 w1 ⟨rfl, hb⟩
                            have HB1 := Aside0.mk (below_step (below_drew1 (Below.refl W.heap.size W)) hb)
                            refine ⟨_, rfl, ?_⟩
                            clear hb
                            have z10 := pw_cell_below HB1.out cc0
                            have z11 := pw_cell_below HB1.out cc1
                            have z12 := pw_cell_below HB1.out cc2
                            have z13 := pw_cell_below HB1.out cc3
                            have z14 := pw_cell_below HB1.out cc4
                            have z15 := pw_cell_below HB1.out cc5
                            refine hK.out _ _ ⟨z10, z11, z12, z13, z14, z15, HB1.out⟩ (fun hHeld => ?_)
                            clear hK K
                            refine norm_ (a' := ?_) ?_ ?_
                            rotate_left
                            · show Act.put _ (some 79) _ = _
                              simp only [Act.put, List.setIfInBounds_toArray, List.set_cons_zero, List.set_cons_succ, i64_w, i32_w]
                              rfl
                            clear z10 z11 z12 z13 z14 z15
                            refine pure_ (i := 4) (N := some 82) (v := ?_) (a' := ?_) #[true, true, true, true, true, true, false, false, false] rfl rfl (by kernel_rfl) (fun _ _ _ h => h) (Or.inl ⟨by rfl, ?_⟩) ?_ ?_
                            rotate_left
                            · intro w'
                              go_simp
                              with_reducible rfl
                            rotate_left
                            · simp only [Act.put, List.setIfInBounds_toArray, List.set_cons_zero, List.set_cons_succ, i64_w, i32_w]
                              rfl
                            refine one_ (i := 6) (N := some 84) #[true, true, true, true, true, true, true, false, false] rfl rfl (by kernel_rfl) (by decide) (fun K hK => ?_)
                            refine goes_ Tryz.func104 (by kernel_rfl) rfl #[.agg (cells43 x A c).toArray, .int .i64 1] (by rfl) rfl rfl (by (try simp only [List.map_toArray, List.map_cons, List.map_nil]); first | done | rfl) ?_
                            refine (ih x _ A c 1 1 rfl (by omega) HX.out HT.out HZ1.out HL.out (Kd.C_below HC.out HB1.out)).mono ?_
                            rintro e2 w2 ⟨rfl, hb⟩
                            have HB2 := Aside0.mk (below_step HB1.out hb)
                            refine ⟨_, rfl, ?_⟩
                            clear hb
                            have z20 := pw_cell_below HB2.out cc0
                            have z21 := pw_cell_below HB2.out cc1
                            have z22 := pw_cell_below HB2.out cc2
                            have z23 := pw_cell_below HB2.out cc3
                            have z24 := pw_cell_below HB2.out cc4
                            have z25 := pw_cell_below HB2.out cc5
                            refine hK.out _ _ ⟨z20, z21, z22, z23, z24, z25, HB2.out⟩ (fun hHeld => ?_)
                            clear hK K
                            refine norm_ (a' := ?_) ?_ ?_
                            rotate_left
                            · show Act.put _ (some 84) _ = _
                              simp only [Act.put, List.setIfInBounds_toArray, List.set_cons_zero, List.set_cons_succ, i64_w, i32_w]
                              rfl
                            clear z20 z21 z22 z23 z24 z25
                            refine pure_ (i := 7) (N := some 85) (v := ?_) (a' := ?_) #[true, true, true, true, true, true, true, true, false] rfl rfl (by kernel_rfl) (fun _ _ _ h => h) (Or.inl ⟨by rfl, ?_⟩) ?_ ?_
                            rotate_left
                            · intro w'
                              go_simp
                              with_reducible rfl
                            rotate_left
                            · simp only [Act.put, List.setIfInBounds_toArray, List.set_cons_zero, List.set_cons_succ, i64_w, i32_w]
                              rfl
                            refine pure_ (i := 8) (N := some 2) (v := ?_) (a' := ?_) #[true, true, true, true, true, true, true, true, true] rfl rfl (by kernel_rfl) (fun _ _ _ h => h) (Or.inl ⟨by rfl, ?_⟩) ?_ ?_
                            rotate_left
                            · intro w'
                              go_simp
                              with_reducible rfl
                            rotate_left
                            · simp only [Act.put, List.setIfInBounds_toArray, List.set_cons_zero, List.set_cons_succ, i64_w, i32_w]
                              rfl
                            refine done_ (by kernel_rfl) ?_
                            go_wp2
                            go_ret
                            exact ⟨by rw [HT0.out]; rfl, below_step HB.out HB2.out⟩
                          · have g0 : (x.f0.toList == [61]) = false := by rw [hm]; decide
                            have g1 : (x.f0.toList == [60, 62]) = true := by rw [hm]; decide
                            clear hm
                            go_upto_region 38 with (fail)
                            refine start_ (n := 9) (S := fun w' => w'.cell? ⟨b, 0, none⟩ = some (.string x.f0) ∧ w'.cell? ⟨b, 1, none⟩ = some (.int .i64 x.f1.f0) ∧ w'.cell? ⟨b, 2, none⟩ = some (.int .i64 x.f1.f1) ∧ w'.cell? ⟨b, 3, none⟩ = some (.string x.f1.f2) ∧ w'.cell? ⟨b, 4, none⟩ = some (.string x.f2) ∧ w'.cell? ⟨b, 5, none⟩ = some (.slice A x.f3.length c) ∧ Below W.heap.size W w') (ds := []) #[false, false, false, false, false, false, false, false, false] (by kernel_rfl) rfl rfl ⟨cc0, cc1, cc2, cc3, cc4, cc5, below_drew1 (Below.refl _ _)⟩ (fun hHeld => ?_)
                            refine pure_ (i := 2) (N := some 80) (v := ?_) (a' := ?_) #[false, false, true, false, false, false, false, false, false] rfl rfl (by kernel_rfl) (fun _ _ _ h => h) (Or.inl ⟨by rfl, ?_⟩) ?_ ?_
                            rotate_left
                            · intro w'
                              go_simp
                              with_reducible rfl
                            rotate_left
                            · simp only [Act.put, List.setIfInBounds_toArray, List.set_cons_zero, List.set_cons_succ, i64_w, i32_w]
                              rfl
                            refine take_ (i := 0) (N := some 78) (v := ?_) (a' := ?_) #[true, false, true, false, false, false, false, false, false] rfl rfl (by kernel_rfl) (fun _ _ _ h => h) (Or.inl ⟨by rfl, ?_⟩) hHeld ?_ ?_
                            rotate_left
                            · rintro w' ⟨s0, s1, s2, s3, s4, s5, _⟩
                              go_simp
                              with_reducible rfl
                            rotate_left
                            · simp only [Act.put, List.setIfInBounds_toArray, List.set_cons_zero, List.set_cons_succ, i64_w, i32_w]
                              rfl
                            refine take_ (i := 5) (N := some 83) (v := ?_) (a' := ?_) #[true, false, true, false, false, true, false, false, false] rfl rfl (by kernel_rfl) (fun _ _ _ h => h) (Or.inl ⟨by rfl, ?_⟩) hHeld ?_ ?_
                            rotate_left
                            · rintro w' ⟨s0, s1, s2, s3, s4, s5, _⟩
                              go_simp
                              with_reducible rfl
                            rotate_left
                            · simp only [Act.put, List.setIfInBounds_toArray, List.set_cons_zero, List.set_cons_succ, i64_w, i32_w]
                              rfl
                            refine take_ (i := 3) (N := some 81) (v := ?_) (a' := ?_) #[true, false, true, true, false, true, false, false, false] rfl rfl (by kernel_rfl) (fun _ _ _ h => h) (Or.inl ⟨by rfl, ?_⟩) hHeld ?_ ?_
                            rotate_left
                            · rintro w' ⟨s0, s1, s2, s3, s4, s5, _⟩
                              go_simp
                              with_reducible rfl
                            rotate_left
                            · simp only [Act.put, List.setIfInBounds_toArray, List.set_cons_zero, List.set_cons_succ, i64_w, i32_w]
                              rfl
                            refine one_ (i := 1) (N := some 79) #[true, true, true, true, false, true, false, false, false] rfl rfl (by kernel_rfl) (by decide) (fun K hK => ?_)
                            refine goes_ Tryz.func104 (by kernel_rfl) rfl #[.agg (cells43 x A c).toArray, .int .i64 0] (by rfl) rfl rfl (by (try simp only [List.map_toArray, List.map_cons, List.map_nil]); first | done | rfl) ?_
                            refine (ih x _ A c 0 0 rfl (by omega) HX.out HT.out HZ0.out HL.out (Kd.C_below HC.out (below_drew1 (Below.refl W.heap.size W)))).mono ?_
                            rintro e1 w1 ⟨rfl, hb⟩
                            have HB1 := Aside0.mk (below_step (below_drew1 (Below.refl W.heap.size W)) hb)
                            refine ⟨_, rfl, ?_⟩
                            clear hb
                            have z10 := pw_cell_below HB1.out cc0
                            have z11 := pw_cell_below HB1.out cc1
                            have z12 := pw_cell_below HB1.out cc2
                            have z13 := pw_cell_below HB1.out cc3
                            have z14 := pw_cell_below HB1.out cc4
                            have z15 := pw_cell_below HB1.out cc5
                            refine hK.out _ _ ⟨z10, z11, z12, z13, z14, z15, HB1.out⟩ (fun hHeld => ?_)
                            clear hK K
                            refine norm_ (a' := ?_) ?_ ?_
                            rotate_left
                            · show Act.put _ (some 79) _ = _
                              simp only [Act.put, List.setIfInBounds_toArray, List.set_cons_zero, List.set_cons_succ, i64_w, i32_w]
                              rfl
                            clear z10 z11 z12 z13 z14 z15
                            refine pure_ (i := 4) (N := some 82) (v := ?_) (a' := ?_) #[true, true, true, true, true, true, false, false, false] rfl rfl (by kernel_rfl) (fun _ _ _ h => h) (Or.inl ⟨by rfl, ?_⟩) ?_ ?_
                            rotate_left
                            · intro w'
                              go_simp
                              with_reducible rfl
                            rotate_left
                            · simp only [Act.put, List.setIfInBounds_toArray, List.set_cons_zero, List.set_cons_succ, i64_w, i32_w]
                              rfl
                            refine one_ (i := 6) (N := some 84) #[true, true, true, true, true, true, true, false, false] rfl rfl (by kernel_rfl) (by decide) (fun K hK => ?_)
                            refine goes_ Tryz.func104 (by kernel_rfl) rfl #[.agg (cells43 x A c).toArray, .int .i64 1] (by rfl) rfl rfl (by (try simp only [List.map_toArray, List.map_cons, List.map_nil]); first | done | rfl) ?_
                            refine (ih x _ A c 1 1 rfl (by omega) HX.out HT.out HZ1.out HL.out (Kd.C_below HC.out HB1.out)).mono ?_
                            rintro e2 w2 ⟨rfl, hb⟩
                            have HB2 := Aside0.mk (below_step HB1.out hb)
                            refine ⟨_, rfl, ?_⟩
                            clear hb
                            have z20 := pw_cell_below HB2.out cc0
                            have z21 := pw_cell_below HB2.out cc1
                            have z22 := pw_cell_below HB2.out cc2
                            have z23 := pw_cell_below HB2.out cc3
                            have z24 := pw_cell_below HB2.out cc4
                            have z25 := pw_cell_below HB2.out cc5
                            refine hK.out _ _ ⟨z20, z21, z22, z23, z24, z25, HB2.out⟩ (fun hHeld => ?_)
                            clear hK K
                            refine norm_ (a' := ?_) ?_ ?_
                            rotate_left
                            · show Act.put _ (some 84) _ = _
                              simp only [Act.put, List.setIfInBounds_toArray, List.set_cons_zero, List.set_cons_succ, i64_w, i32_w]
                              rfl
                            clear z20 z21 z22 z23 z24 z25
                            refine pure_ (i := 7) (N := some 85) (v := ?_) (a' := ?_) #[true, true, true, true, true, true, true, true, false] rfl rfl (by kernel_rfl) (fun _ _ _ h => h) (Or.inl ⟨by rfl, ?_⟩) ?_ ?_
                            rotate_left
                            · intro w'
                              go_simp
                              with_reducible rfl
                            rotate_left
                            · simp only [Act.put, List.setIfInBounds_toArray, List.set_cons_zero, List.set_cons_succ, i64_w, i32_w]
                              rfl
                            refine pure_ (i := 8) (N := some 2) (v := ?_) (a' := ?_) #[true, true, true, true, true, true, true, true, true] rfl rfl (by kernel_rfl) (fun _ _ _ h => h) (Or.inl ⟨by rfl, ?_⟩) ?_ ?_
                            rotate_left
                            · intro w'
                              go_simp
                              with_reducible rfl
                            rotate_left
                            · simp only [Act.put, List.setIfInBounds_toArray, List.set_cons_zero, List.set_cons_succ, i64_w, i32_w]
                              rfl
                            refine done_ (by kernel_rfl) ?_
                            go_wp2
                            go_ret
                            exact ⟨by rw [HT0.out]; rfl, below_step HB.out HB2.out⟩
                          · have g0 : (x.f0.toList == [61]) = false := by rw [hm]; decide
                            have g1 : (x.f0.toList == [60, 62]) = false := by rw [hm]; decide
                            have g2 : (x.f0.toList == [60]) = true := by rw [hm]; decide
                            clear hm
                            go_upto_region 38 with (fail)
                            refine start_ (n := 9) (S := fun w' => w'.cell? ⟨b, 0, none⟩ = some (.string x.f0) ∧ w'.cell? ⟨b, 1, none⟩ = some (.int .i64 x.f1.f0) ∧ w'.cell? ⟨b, 2, none⟩ = some (.int .i64 x.f1.f1) ∧ w'.cell? ⟨b, 3, none⟩ = some (.string x.f1.f2) ∧ w'.cell? ⟨b, 4, none⟩ = some (.string x.f2) ∧ w'.cell? ⟨b, 5, none⟩ = some (.slice A x.f3.length c) ∧ Below W.heap.size W w') (ds := []) #[false, false, false, false, false, false, false, false, false] (by kernel_rfl) rfl rfl ⟨cc0, cc1, cc2, cc3, cc4, cc5, below_drew1 (Below.refl _ _)⟩ (fun hHeld => ?_)
                            refine pure_ (i := 2) (N := some 80) (v := ?_) (a' := ?_) #[false, false, true, false, false, false, false, false, false] rfl rfl (by kernel_rfl) (fun _ _ _ h => h) (Or.inl ⟨by rfl, ?_⟩) ?_ ?_
                            rotate_left
                            · intro w'
                              go_simp
                              with_reducible rfl
                            rotate_left
                            · simp only [Act.put, List.setIfInBounds_toArray, List.set_cons_zero, List.set_cons_succ, i64_w, i32_w]
                              rfl
                            refine take_ (i := 0) (N := some 78) (v := ?_) (a' := ?_) #[true, false, true, false, false, false, false, false, false] rfl rfl (by kernel_rfl) (fun _ _ _ h => h) (Or.inl ⟨by rfl, ?_⟩) hHeld ?_ ?_
                            rotate_left
                            · rintro w' ⟨s0, s1, s2, s3, s4, s5, _⟩
                              go_simp
                              with_reducible rfl
                            rotate_left
                            · simp only [Act.put, List.setIfInBounds_toArray, List.set_cons_zero, List.set_cons_succ, i64_w, i32_w]
                              rfl
                            refine take_ (i := 5) (N := some 83) (v := ?_) (a' := ?_) #[true, false, true, false, false, true, false, false, false] rfl rfl (by kernel_rfl) (fun _ _ _ h => h) (Or.inl ⟨by rfl, ?_⟩) hHeld ?_ ?_
                            rotate_left
                            · rintro w' ⟨s0, s1, s2, s3, s4, s5, _⟩
                              go_simp
                              with_reducible rfl
                            rotate_left
                            · simp only [Act.put, List.setIfInBounds_toArray, List.set_cons_zero, List.set_cons_succ, i64_w, i32_w]
                              rfl
                            refine take_ (i := 3) (N := some 81) (v := ?_) (a' := ?_) #[true, false, true, true, false, true, false, false, false] rfl rfl (by kernel_rfl) (fun _ _ _ h => h) (Or.inl ⟨by rfl, ?_⟩) hHeld ?_ ?_
                            rotate_left
                            · rintro w' ⟨s0, s1, s2, s3, s4, s5, _⟩
                              go_simp
                              with_reducible rfl
                            rotate_left
                            · simp only [Act.put, List.setIfInBounds_toArray, List.set_cons_zero, List.set_cons_succ, i64_w, i32_w]
                              rfl
                            refine one_ (i := 1) (N := some 79) #[true, true, true, true, false, true, false, false, false] rfl rfl (by kernel_rfl) (by decide) (fun K hK => ?_)
                            refine goes_ Tryz.func104 (by kernel_rfl) rfl #[.agg (cells43 x A c).toArray, .int .i64 0] (by rfl) rfl rfl (by (try simp only [List.map_toArray, List.map_cons, List.map_nil]); first | done | rfl) ?_
                            refine (ih x _ A c 0 0 rfl (by omega) HX.out HT.out HZ0.out HL.out (Kd.C_below HC.out (below_drew1 (Below.refl W.heap.size W)))).mono ?_
                            rintro e1 w1 ⟨rfl, hb⟩
                            have HB1 := Aside0.mk (below_step (below_drew1 (Below.refl W.heap.size W)) hb)
                            refine ⟨_, rfl, ?_⟩
                            clear hb
                            have z10 := pw_cell_below HB1.out cc0
                            have z11 := pw_cell_below HB1.out cc1
                            have z12 := pw_cell_below HB1.out cc2
                            have z13 := pw_cell_below HB1.out cc3
                            have z14 := pw_cell_below HB1.out cc4
                            have z15 := pw_cell_below HB1.out cc5
                            refine hK.out _ _ ⟨z10, z11, z12, z13, z14, z15, HB1.out⟩ (fun hHeld => ?_)
                            clear hK K
                            refine norm_ (a' := ?_) ?_ ?_
                            rotate_left
                            · show Act.put _ (some 79) _ = _
                              simp only [Act.put, List.setIfInBounds_toArray, List.set_cons_zero, List.set_cons_succ, i64_w, i32_w]
                              rfl
                            clear z10 z11 z12 z13 z14 z15
                            refine pure_ (i := 4) (N := some 82) (v := ?_) (a' := ?_) #[true, true, true, true, true, true, false, false, false] rfl rfl (by kernel_rfl) (fun _ _ _ h => h) (Or.inl ⟨by rfl, ?_⟩) ?_ ?_
                            rotate_left
                            · intro w'
                              go_simp
                              with_reducible rfl
                            rotate_left
                            · simp only [Act.put, List.setIfInBounds_toArray, List.set_cons_zero, List.set_cons_succ, i64_w, i32_w]
                              rfl
                            refine one_ (i := 6) (N := some 84) #[true, true, true, true, true, true, true, false, false] rfl rfl (by kernel_rfl) (by decide) (fun K hK => ?_)
                            refine goes_ Tryz.func104 (by kernel_rfl) rfl #[.agg (cells43 x A c).toArray, .int .i64 1] (by rfl) rfl rfl (by (try simp only [List.map_toArray, List.map_cons, List.map_nil]); first | done | rfl) ?_
                            refine (ih x _ A c 1 1 rfl (by omega) HX.out HT.out HZ1.out HL.out (Kd.C_below HC.out HB1.out)).mono ?_
                            rintro e2 w2 ⟨rfl, hb⟩
                            have HB2 := Aside0.mk (below_step HB1.out hb)
                            refine ⟨_, rfl, ?_⟩
                            clear hb
                            have z20 := pw_cell_below HB2.out cc0
                            have z21 := pw_cell_below HB2.out cc1
                            have z22 := pw_cell_below HB2.out cc2
                            have z23 := pw_cell_below HB2.out cc3
                            have z24 := pw_cell_below HB2.out cc4
                            have z25 := pw_cell_below HB2.out cc5
                            refine hK.out _ _ ⟨z20, z21, z22, z23, z24, z25, HB2.out⟩ (fun hHeld => ?_)
                            clear hK K
                            refine norm_ (a' := ?_) ?_ ?_
                            rotate_left
                            · show Act.put _ (some 84) _ = _
                              simp only [Act.put, List.setIfInBounds_toArray, List.set_cons_zero, List.set_cons_succ, i64_w, i32_w]
                              rfl
                            clear z20 z21 z22 z23 z24 z25
                            refine pure_ (i := 7) (N := some 85) (v := ?_) (a' := ?_) #[true, true, true, true, true, true, true, true, false] rfl rfl (by kernel_rfl) (fun _ _ _ h => h) (Or.inl ⟨by rfl, ?_⟩) ?_ ?_
                            rotate_left
                            · intro w'
                              go_simp
                              with_reducible rfl
                            rotate_left
                            · simp only [Act.put, List.setIfInBounds_toArray, List.set_cons_zero, List.set_cons_succ, i64_w, i32_w]
                              rfl
                            refine pure_ (i := 8) (N := some 2) (v := ?_) (a' := ?_) #[true, true, true, true, true, true, true, true, true] rfl rfl (by kernel_rfl) (fun _ _ _ h => h) (Or.inl ⟨by rfl, ?_⟩) ?_ ?_
                            rotate_left
                            · intro w'
                              go_simp
                              with_reducible rfl
                            rotate_left
                            · simp only [Act.put, List.setIfInBounds_toArray, List.set_cons_zero, List.set_cons_succ, i64_w, i32_w]
                              rfl
                            refine done_ (by kernel_rfl) ?_
                            go_wp2
                            go_ret
                            exact ⟨by rw [HT0.out]; rfl, below_step HB.out HB2.out⟩
                          · have g0 : (x.f0.toList == [61]) = false := by rw [hm]; decide
                            have g1 : (x.f0.toList == [60, 62]) = false := by rw [hm]; decide
                            have g2 : (x.f0.toList == [60]) = false := by rw [hm]; decide
                            have g3 : (x.f0.toList == [60, 61]) = true := by rw [hm]; decide
                            clear hm
                            go_upto_region 38 with (fail)
                            refine start_ (n := 9) (S := fun w' => w'.cell? ⟨b, 0, none⟩ = some (.string x.f0) ∧ w'.cell? ⟨b, 1, none⟩ = some (.int .i64 x.f1.f0) ∧ w'.cell? ⟨b, 2, none⟩ = some (.int .i64 x.f1.f1) ∧ w'.cell? ⟨b, 3, none⟩ = some (.string x.f1.f2) ∧ w'.cell? ⟨b, 4, none⟩ = some (.string x.f2) ∧ w'.cell? ⟨b, 5, none⟩ = some (.slice A x.f3.length c) ∧ Below W.heap.size W w') (ds := []) #[false, false, false, false, false, false, false, false, false] (by kernel_rfl) rfl rfl ⟨cc0, cc1, cc2, cc3, cc4, cc5, below_drew1 (Below.refl _ _)⟩ (fun hHeld => ?_)
                            refine pure_ (i := 2) (N := some 80) (v := ?_) (a' := ?_) #[false, false, true, false, false, false, false, false, false] rfl rfl (by kernel_rfl) (fun _ _ _ h => h) (Or.inl ⟨by rfl, ?_⟩) ?_ ?_
                            rotate_left
                            · intro w'
                              go_simp
                              with_reducible rfl
                            rotate_left
                            · simp only [Act.put, List.setIfInBounds_toArray, List.set_cons_zero, List.set_cons_succ, i64_w, i32_w]
                              rfl
                            refine take_ (i := 0) (N := some 78) (v := ?_) (a' := ?_) #[true, false, true, false, false, false, false, false, false] rfl rfl (by kernel_rfl) (fun _ _ _ h => h) (Or.inl ⟨by rfl, ?_⟩) hHeld ?_ ?_
                            rotate_left
                            · rintro w' ⟨s0, s1, s2, s3, s4, s5, _⟩
                              go_simp
                              with_reducible rfl
                            rotate_left
                            · simp only [Act.put, List.setIfInBounds_toArray, List.set_cons_zero, List.set_cons_succ, i64_w, i32_w]
                              rfl
                            refine take_ (i := 5) (N := some 83) (v := ?_) (a' := ?_) #[true, false, true, false, false, true, false, false, false] rfl rfl (by kernel_rfl) (fun _ _ _ h => h) (Or.inl ⟨by rfl, ?_⟩) hHeld ?_ ?_
                            rotate_left
                            · rintro w' ⟨s0, s1, s2, s3, s4, s5, _⟩
                              go_simp
                              with_reducible rfl
                            rotate_left
                            · simp only [Act.put, List.setIfInBounds_toArray, List.set_cons_zero, List.set_cons_succ, i64_w, i32_w]
                              rfl
                            refine take_ (i := 3) (N := some 81) (v := ?_) (a' := ?_) #[true, false, true, true, false, true, false, false, false] rfl rfl (by kernel_rfl) (fun _ _ _ h => h) (Or.inl ⟨by rfl, ?_⟩) hHeld ?_ ?_
                            rotate_left
                            · rintro w' ⟨s0, s1, s2, s3, s4, s5, _⟩
                              go_simp
                              with_reducible rfl
                            rotate_left
                            · simp only [Act.put, List.setIfInBounds_toArray, List.set_cons_zero, List.set_cons_succ, i64_w, i32_w]
                              rfl
                            refine one_ (i := 1) (N := some 79) #[true, true, true, true, false, true, false, false, false] rfl rfl (by kernel_rfl) (by decide) (fun K hK => ?_)
                            refine goes_ Tryz.func104 (by kernel_rfl) rfl #[.agg (cells43 x A c).toArray, .int .i64 0] (by rfl) rfl rfl (by (try simp only [List.map_toArray, List.map_cons, List.map_nil]); first | done | rfl) ?_
                            refine (ih x _ A c 0 0 rfl (by omega) HX.out HT.out HZ0.out HL.out (Kd.C_below HC.out (below_drew1 (Below.refl W.heap.size W)))).mono ?_
                            rintro e1 w1 ⟨rfl, hb⟩
                            have HB1 := Aside0.mk (below_step (below_drew1 (Below.refl W.heap.size W)) hb)
                            refine ⟨_, rfl, ?_⟩
                            clear hb
                            have z10 := pw_cell_below HB1.out cc0
                            have z11 := pw_cell_below HB1.out cc1
                            have z12 := pw_cell_below HB1.out cc2
                            have z13 := pw_cell_below HB1.out cc3
                            have z14 := pw_cell_below HB1.out cc4
                            have z15 := pw_cell_below HB1.out cc5
                            refine hK.out _ _ ⟨z10, z11, z12, z13, z14, z15, HB1.out⟩ (fun hHeld => ?_)
                            clear hK K
                            refine norm_ (a' := ?_) ?_ ?_
                            rotate_left
                            · show Act.put _ (some 79) _ = _
                              simp only [Act.put, List.setIfInBounds_toArray, List.set_cons_zero, List.set_cons_succ, i64_w, i32_w]
                              rfl
                            clear z10 z11 z12 z13 z14 z15
                            refine pure_ (i := 4) (N := some 82) (v := ?_) (a' := ?_) #[true, true, true, true, true, true, false, false, false] rfl rfl (by kernel_rfl) (fun _ _ _ h => h) (Or.inl ⟨by rfl, ?_⟩) ?_ ?_
                            rotate_left
                            · intro w'
                              go_simp
                              with_reducible rfl
                            rotate_left
                            · simp only [Act.put, List.setIfInBounds_toArray, List.set_cons_zero, List.set_cons_succ, i64_w, i32_w]
                              rfl
                            refine one_ (i := 6) (N := some 84) #[true, true, true, true, true, true, true, false, false] rfl rfl (by kernel_rfl) (by decide) (fun K hK => ?_)
                            refine goes_ Tryz.func104 (by kernel_rfl) rfl #[.agg (cells43 x A c).toArray, .int .i64 1] (by rfl) rfl rfl (by (try simp only [List.map_toArray, List.map_cons, List.map_nil]); first | done | rfl) ?_
                            refine (ih x _ A c 1 1 rfl (by omega) HX.out HT.out HZ1.out HL.out (Kd.C_below HC.out HB1.out)).mono ?_
                            rintro e2 w2 ⟨rfl, hb⟩
                            have HB2 := Aside0.mk (below_step HB1.out hb)
                            refine ⟨_, rfl, ?_⟩
                            clear hb
                            have z20 := pw_cell_below HB2.out cc0
                            have z21 := pw_cell_below HB2.out cc1
                            have z22 := pw_cell_below HB2.out cc2
                            have z23 := pw_cell_below HB2.out cc3
                            have z24 := pw_cell_below HB2.out cc4
                            have z25 := pw_cell_below HB2.out cc5
                            refine hK.out _ _ ⟨z20, z21, z22, z23, z24, z25, HB2.out⟩ (fun hHeld => ?_)
                            clear hK K
                            refine norm_ (a' := ?_) ?_ ?_
                            rotate_left
                            · show Act.put _ (some 84) _ = _
                              simp only [Act.put, List.setIfInBounds_toArray, List.set_cons_zero, List.set_cons_succ, i64_w, i32_w]
                              rfl
                            clear z20 z21 z22 z23 z24 z25
                            refine pure_ (i := 7) (N := some 85) (v := ?_) (a' := ?_) #[true, true, true, true, true, true, true, true, false] rfl rfl (by kernel_rfl) (fun _ _ _ h => h) (Or.inl ⟨by rfl, ?_⟩) ?_ ?_
                            rotate_left
                            · intro w'
                              go_simp
                              with_reducible rfl
                            rotate_left
                            · simp only [Act.put, List.setIfInBounds_toArray, List.set_cons_zero, List.set_cons_succ, i64_w, i32_w]
                              rfl
                            refine pure_ (i := 8) (N := some 2) (v := ?_) (a' := ?_) #[true, true, true, true, true, true, true, true, true] rfl rfl (by kernel_rfl) (fun _ _ _ h => h) (Or.inl ⟨by rfl, ?_⟩) ?_ ?_
                            rotate_left
                            · intro w'
                              go_simp
                              with_reducible rfl
                            rotate_left
                            · simp only [Act.put, List.setIfInBounds_toArray, List.set_cons_zero, List.set_cons_succ, i64_w, i32_w]
                              rfl
                            refine done_ (by kernel_rfl) ?_
                            go_wp2
                            go_ret
                            exact ⟨by rw [HT0.out]; rfl, below_step HB.out HB2.out⟩
                          · have g0 : (x.f0.toList == [61]) = false := by rw [hm]; decide
                            have g1 : (x.f0.toList == [60, 62]) = false := by rw [hm]; decide
                            have g2 : (x.f0.toList == [60]) = false := by rw [hm]; decide
                            have g3 : (x.f0.toList == [60, 61]) = false := by rw [hm]; decide
                            have g4 : (x.f0.toList == [62]) = true := by rw [hm]; decide
                            clear hm
                            go_upto_region 38 with (fail)
                            refine start_ (n := 9) (S := fun w' => w'.cell? ⟨b, 0, none⟩ = some (.string x.f0) ∧ w'.cell? ⟨b, 1, none⟩ = some (.int .i64 x.f1.f0) ∧ w'.cell? ⟨b, 2, none⟩ = some (.int .i64 x.f1.f1) ∧ w'.cell? ⟨b, 3, none⟩ = some (.string x.f1.f2) ∧ w'.cell? ⟨b, 4, none⟩ = some (.string x.f2) ∧ w'.cell? ⟨b, 5, none⟩ = some (.slice A x.f3.length c) ∧ Below W.heap.size W w') (ds := []) #[false, false, false, false, false, false, false, false, false] (by kernel_rfl) rfl rfl ⟨cc0, cc1, cc2, cc3, cc4, cc5, below_drew1 (Below.refl _ _)⟩ (fun hHeld => ?_)
                            refine pure_ (i := 2) (N := some 80) (v := ?_) (a' := ?_) #[false, false, true, false, false, false, false, false, false] rfl rfl (by kernel_rfl) (fun _ _ _ h => h) (Or.inl ⟨by rfl, ?_⟩) ?_ ?_
                            rotate_left
                            · intro w'
                              go_simp
                              with_reducible rfl
                            rotate_left
                            · simp only [Act.put, List.setIfInBounds_toArray, List.set_cons_zero, List.set_cons_succ, i64_w, i32_w]
                              rfl
                            refine take_ (i := 0) (N := some 78) (v := ?_) (a' := ?_) #[true, false, true, false, false, false, false, false, false] rfl rfl (by kernel_rfl) (fun _ _ _ h => h) (Or.inl ⟨by rfl, ?_⟩) hHeld ?_ ?_
                            rotate_left
                            · rintro w' ⟨s0, s1, s2, s3, s4, s5, _⟩
                              go_simp
                              with_reducible rfl
                            rotate_left
                            · simp only [Act.put, List.setIfInBounds_toArray, List.set_cons_zero, List.set_cons_succ, i64_w, i32_w]
                              rfl
                            refine take_ (i := 5) (N := some 83) (v := ?_) (a' := ?_) #[true, false, true, false, false, true, false, false, false] rfl rfl (by kernel_rfl) (fun _ _ _ h => h) (Or.inl ⟨by rfl, ?_⟩) hHeld ?_ ?_
                            rotate_left
                            · rintro w' ⟨s0, s1, s2, s3, s4, s5, _⟩
                              go_simp
                              with_reducible rfl
                            rotate_left
                            · simp only [Act.put, List.setIfInBounds_toArray, List.set_cons_zero, List.set_cons_succ, i64_w, i32_w]
                              rfl
                            refine take_ (i := 3) (N := some 81) (v := ?_) (a' := ?_) #[true, false, true, true, false, true, false, false, false] rfl rfl (by kernel_rfl) (fun _ _ _ h => h) (Or.inl ⟨by rfl, ?_⟩) hHeld ?_ ?_
                            rotate_left
                            · rintro w' ⟨s0, s1, s2, s3, s4, s5, _⟩
                              go_simp
                              with_reducible rfl
                            rotate_left
                            · simp only [Act.put, List.setIfInBounds_toArray, List.set_cons_zero, List.set_cons_succ, i64_w, i32_w]
                              rfl
                            refine one_ (i := 1) (N := some 79) #[true, true, true, true, false, true, false, false, false] rfl rfl (by kernel_rfl) (by decide) (fun K hK => ?_)
                            refine goes_ Tryz.func104 (by kernel_rfl) rfl #[.agg (cells43 x A c).toArray, .int .i64 0] (by rfl) rfl rfl (by (try simp only [List.map_toArray, List.map_cons, List.map_nil]); first | done | rfl) ?_
                            refine (ih x _ A c 0 0 rfl (by omega) HX.out HT.out HZ0.out HL.out (Kd.C_below HC.out (below_drew1 (Below.refl W.heap.size W)))).mono ?_
                            rintro e1 w1 ⟨rfl, hb⟩
                            have HB1 := Aside0.mk (below_step (below_drew1 (Below.refl W.heap.size W)) hb)
                            refine ⟨_, rfl, ?_⟩
                            clear hb
                            have z10 := pw_cell_below HB1.out cc0
                            have z11 := pw_cell_below HB1.out cc1
                            have z12 := pw_cell_below HB1.out cc2
                            have z13 := pw_cell_below HB1.out cc3
                            have z14 := pw_cell_below HB1.out cc4
                            have z15 := pw_cell_below HB1.out cc5
                            refine hK.out _ _ ⟨z10, z11, z12, z13, z14, z15, HB1.out⟩ (fun hHeld => ?_)
                            clear hK K
                            refine norm_ (a' := ?_) ?_ ?_
                            rotate_left
                            · show Act.put _ (some 79) _ = _
                              simp only [Act.put, List.setIfInBounds_toArray, List.set_cons_zero, List.set_cons_succ, i64_w, i32_w]
                              rfl
                            clear z10 z11 z12 z13 z14 z15
                            refine pure_ (i := 4) (N := some 82) (v := ?_) (a' := ?_) #[true, true, true, true, true, true, false, false, false] rfl rfl (by kernel_rfl) (fun _ _ _ h => h) (Or.inl ⟨by rfl, ?_⟩) ?_ ?_
                            rotate_left
                            · intro w'
                              go_simp
                              with_reducible rfl
                            rotate_left
                            · simp only [Act.put, List.setIfInBounds_toArray, List.set_cons_zero, List.set_cons_succ, i64_w, i32_w]
                              rfl
                            refine one_ (i := 6) (N := some 84) #[true, true, true, true, true, true, true, false, false] rfl rfl (by kernel_rfl) (by decide) (fun K hK => ?_)
                            refine goes_ Tryz.func104 (by kernel_rfl) rfl #[.agg (cells43 x A c).toArray, .int .i64 1] (by rfl) rfl rfl (by (try simp only [List.map_toArray, List.map_cons, List.map_nil]); first | done | rfl) ?_
                            refine (ih x _ A c 1 1 rfl (by omega) HX.out HT.out HZ1.out HL.out (Kd.C_below HC.out HB1.out)).mono ?_
                            rintro e2 w2 ⟨rfl, hb⟩
                            have HB2 := Aside0.mk (below_step HB1.out hb)
                            refine ⟨_, rfl, ?_⟩
                            clear hb
                            have z20 := pw_cell_below HB2.out cc0
                            have z21 := pw_cell_below HB2.out cc1
                            have z22 := pw_cell_below HB2.out cc2
                            have z23 := pw_cell_below HB2.out cc3
                            have z24 := pw_cell_below HB2.out cc4
                            have z25 := pw_cell_below HB2.out cc5
                            refine hK.out _ _ ⟨z20, z21, z22, z23, z24, z25, HB2.out⟩ (fun hHeld => ?_)
                            clear hK K
                            refine norm_ (a' := ?_) ?_ ?_
                            rotate_left
                            · show Act.put _ (some 84) _ = _
                              simp only [Act.put, List.setIfInBounds_toArray, List.set_cons_zero, List.set_cons_succ, i64_w, i32_w]
                              rfl
                            clear z20 z21 z22 z23 z24 z25
                            refine pure_ (i := 7) (N := some 85) (v := ?_) (a' := ?_) #[true, true, true, true, true, true, true, true, false] rfl rfl (by kernel_rfl) (fun _ _ _ h => h) (Or.inl ⟨by rfl, ?_⟩) ?_ ?_
                            rotate_left
                            · intro w'
                              go_simp
                              with_reducible rfl
                            rotate_left
                            · simp only [Act.put, List.setIfInBounds_toArray, List.set_cons_zero, List.set_cons_succ, i64_w, i32_w]
                              rfl
                            refine pure_ (i := 8) (N := some 2) (v := ?_) (a' := ?_) #[true, true, true, true, true, true, true, true, true] rfl rfl (by kernel_rfl) (fun _ _ _ h => h) (Or.inl ⟨by rfl, ?_⟩) ?_ ?_
                            rotate_left
                            · intro w'
                              go_simp
                              with_reducible rfl
                            rotate_left
                            · simp only [Act.put, List.setIfInBounds_toArray, List.set_cons_zero, List.set_cons_succ, i64_w, i32_w]
                              rfl
                            refine done_ (by kernel_rfl) ?_
                            go_wp2
                            go_ret
                            exact ⟨by rw [HT0.out]; rfl, below_step HB.out HB2.out⟩
                          · have g0 : (x.f0.toList == [61]) = false := by rw [hm]; decide
                            have g1 : (x.f0.toList == [60, 62]) = false := by rw [hm]; decide
                            have g2 : (x.f0.toList == [60]) = false := by rw [hm]; decide
                            have g3 : (x.f0.toList == [60, 61]) = false := by rw [hm]; decide
                            have g4 : (x.f0.toList == [62]) = false := by rw [hm]; decide
                            have g5 : (x.f0.toList == [62, 61]) = true := by rw [hm]; decide
                            clear hm
                            go_upto_region 38 with (fail)
                            refine start_ (n := 9) (S := fun w' => w'.cell? ⟨b, 0, none⟩ = some (.string x.f0) ∧ w'.cell? ⟨b, 1, none⟩ = some (.int .i64 x.f1.f0) ∧ w'.cell? ⟨b, 2, none⟩ = some (.int .i64 x.f1.f1) ∧ w'.cell? ⟨b, 3, none⟩ = some (.string x.f1.f2) ∧ w'.cell? ⟨b, 4, none⟩ = some (.string x.f2) ∧ w'.cell? ⟨b, 5, none⟩ = some (.slice A x.f3.length c) ∧ Below W.heap.size W w') (ds := []) #[false, false, false, false, false, false, false, false, false] (by kernel_rfl) rfl rfl ⟨cc0, cc1, cc2, cc3, cc4, cc5, below_drew1 (Below.refl _ _)⟩ (fun hHeld => ?_)
                            refine pure_ (i := 2) (N := some 80) (v := ?_) (a' := ?_) #[false, false, true, false, false, false, false, false, false] rfl rfl (by kernel_rfl) (fun _ _ _ h => h) (Or.inl ⟨by rfl, ?_⟩) ?_ ?_
                            rotate_left
                            · intro w'
                              go_simp
                              with_reducible rfl
                            rotate_left
                            · simp only [Act.put, List.setIfInBounds_toArray, List.set_cons_zero, List.set_cons_succ, i64_w, i32_w]
                              rfl
                            refine take_ (i := 0) (N := some 78) (v := ?_) (a' := ?_) #[true, false, true, false, false, false, false, false, false] rfl rfl (by kernel_rfl) (fun _ _ _ h => h) (Or.inl ⟨by rfl, ?_⟩) hHeld ?_ ?_
                            rotate_left
                            · rintro w' ⟨s0, s1, s2, s3, s4, s5, _⟩
                              go_simp
                              with_reducible rfl
                            rotate_left
                            · simp only [Act.put, List.setIfInBounds_toArray, List.set_cons_zero, List.set_cons_succ, i64_w, i32_w]
                              rfl
                            refine take_ (i := 5) (N := some 83) (v := ?_) (a' := ?_) #[true, false, true, false, false, true, false, false, false] rfl rfl (by kernel_rfl) (fun _ _ _ h => h) (Or.inl ⟨by rfl, ?_⟩) hHeld ?_ ?_
                            rotate_left
                            · rintro w' ⟨s0, s1, s2, s3, s4, s5, _⟩
                              go_simp
                              with_reducible rfl
                            rotate_left
                            · simp only [Act.put, List.setIfInBounds_toArray, List.set_cons_zero, List.set_cons_succ, i64_w, i32_w]
                              rfl
                            refine take_ (i := 3) (N := some 81) (v := ?_) (a' := ?_) #[true, false, true, true, false, true, false, false, false] rfl rfl (by kernel_rfl) (fun _ _ _ h => h) (Or.inl ⟨by rfl, ?_⟩) hHeld ?_ ?_
                            rotate_left
                            · rintro w' ⟨s0, s1, s2, s3, s4, s5, _⟩
                              go_simp
                              with_reducible rfl
                            rotate_left
                            · simp only [Act.put, List.setIfInBounds_toArray, List.set_cons_zero, List.set_cons_succ, i64_w, i32_w]
                              rfl
                            refine one_ (i := 1) (N := some 79) #[true, true, true, true, false, true, false, false, false] rfl rfl (by kernel_rfl) (by decide) (fun K hK => ?_)
                            refine goes_ Tryz.func104 (by kernel_rfl) rfl #[.agg (cells43 x A c).toArray, .int .i64 0] (by rfl) rfl rfl (by (try simp only [List.map_toArray, List.map_cons, List.map_nil]); first | done | rfl) ?_
                            refine (ih x _ A c 0 0 rfl (by omega) HX.out HT.out HZ0.out HL.out (Kd.C_below HC.out (below_drew1 (Below.refl W.heap.size W)))).mono ?_
                            rintro e1 w1 ⟨rfl, hb⟩
                            have HB1 := Aside0.mk (below_step (below_drew1 (Below.refl W.heap.size W)) hb)
                            refine ⟨_, rfl, ?_⟩
                            clear hb
                            have z10 := pw_cell_below HB1.out cc0
                            have z11 := pw_cell_below HB1.out cc1
                            have z12 := pw_cell_below HB1.out cc2
                            have z13 := pw_cell_below HB1.out cc3
                            have z14 := pw_cell_below HB1.out cc4
                            have z15 := pw_cell_below HB1.out cc5
                            refine hK.out _ _ ⟨z10, z11, z12, z13, z14, z15, HB1.out⟩ (fun hHeld => ?_)
                            clear hK K
                            refine norm_ (a' := ?_) ?_ ?_
                            rotate_left
                            · show Act.put _ (some 79) _ = _
                              simp only [Act.put, List.setIfInBounds_toArray, List.set_cons_zero, List.set_cons_succ, i64_w, i32_w]
                              rfl
                            clear z10 z11 z12 z13 z14 z15
                            refine pure_ (i := 4) (N := some 82) (v := ?_) (a' := ?_) #[true, true, true, true, true, true, false, false, false] rfl rfl (by kernel_rfl) (fun _ _ _ h => h) (Or.inl ⟨by rfl, ?_⟩) ?_ ?_
                            rotate_left
                            · intro w'
                              go_simp
                              with_reducible rfl
                            rotate_left
                            · simp only [Act.put, List.setIfInBounds_toArray, List.set_cons_zero, List.set_cons_succ, i64_w, i32_w]
                              rfl
                            refine one_ (i := 6) (N := some 84) #[true, true, true, true, true, true, true, false, false] rfl rfl (by kernel_rfl) (by decide) (fun K hK => ?_)
                            refine goes_ Tryz.func104 (by kernel_rfl) rfl #[.agg (cells43 x A c).toArray, .int .i64 1] (by rfl) rfl rfl (by (try simp only [List.map_toArray, List.map_cons, List.map_nil]); first | done | rfl) ?_
                            refine (ih x _ A c 1 1 rfl (by omega) HX.out HT.out HZ1.out HL.out (Kd.C_below HC.out HB1.out)).mono ?_
                            rintro e2 w2 ⟨rfl, hb⟩
                            have HB2 := Aside0.mk (below_step HB1.out hb)
                            refine ⟨_, rfl, ?_⟩
                            clear hb
                            have z20 := pw_cell_below HB2.out cc0
                            have z21 := pw_cell_below HB2.out cc1
                            have z22 := pw_cell_below HB2.out cc2
                            have z23 := pw_cell_below HB2.out cc3
                            have z24 := pw_cell_below HB2.out cc4
                            have z25 := pw_cell_below HB2.out cc5
                            refine hK.out _ _ ⟨z20, z21, z22, z23, z24, z25, HB2.out⟩ (fun hHeld => ?_)
                            clear hK K
                            refine norm_ (a' := ?_) ?_ ?_
                            rotate_left
                            · show Act.put _ (some 84) _ = _
                              simp only [Act.put, List.setIfInBounds_toArray, List.set_cons_zero, List.set_cons_succ, i64_w, i32_w]
                              rfl
                            clear z20 z21 z22 z23 z24 z25
                            refine pure_ (i := 7) (N := some 85) (v := ?_) (a' := ?_) #[true, true, true, true, true, true, true, true, false] rfl rfl (by kernel_rfl) (fun _ _ _ h => h) (Or.inl ⟨by rfl, ?_⟩) ?_ ?_
                            rotate_left
                            · intro w'
                              go_simp
                              with_reducible rfl
                            rotate_left
                            · simp only [Act.put, List.setIfInBounds_toArray, List.set_cons_zero, List.set_cons_succ, i64_w, i32_w]
                              rfl
                            refine pure_ (i := 8) (N := some 2) (v := ?_) (a' := ?_) #[true, true, true, true, true, true, true, true, true] rfl rfl (by kernel_rfl) (fun _ _ _ h => h) (Or.inl ⟨by rfl, ?_⟩) ?_ ?_
                            rotate_left
                            · intro w'
                              go_simp
                              with_reducible rfl
                            rotate_left
                            · simp only [Act.put, List.setIfInBounds_toArray, List.set_cons_zero, List.set_cons_succ, i64_w, i32_w]
                              rfl
                            refine done_ (by kernel_rfl) ?_
                            go_wp2
                            go_ret
                            exact ⟨by rw [HT0.out]; rfl, below_step HB.out HB2.out⟩
                          · have g0 : (x.f0.toList == [61]) = false := by rw [hm]; decide
                            have g1 : (x.f0.toList == [60, 62]) = false := by rw [hm]; decide
                            have g2 : (x.f0.toList == [60]) = false := by rw [hm]; decide
                            have g3 : (x.f0.toList == [60, 61]) = false := by rw [hm]; decide
                            have g4 : (x.f0.toList == [62]) = false := by rw [hm]; decide
                            have g5 : (x.f0.toList == [62, 61]) = false := by rw [hm]; decide
                            have g6 : (x.f0.toList == [43]) = true := by rw [hm]; decide
                            clear hm
                            go_upto_region 38 with (fail)
                            refine start_ (n := 9) (S := fun w' => w'.cell? ⟨b, 0, none⟩ = some (.string x.f0) ∧ w'.cell? ⟨b, 1, none⟩ = some (.int .i64 x.f1.f0) ∧ w'.cell? ⟨b, 2, none⟩ = some (.int .i64 x.f1.f1) ∧ w'.cell? ⟨b, 3, none⟩ = some (.string x.f1.f2) ∧ w'.cell? ⟨b, 4, none⟩ = some (.string x.f2) ∧ w'.cell? ⟨b, 5, none⟩ = some (.slice A x.f3.length c) ∧ Below W.heap.size W w') (ds := []) #[false, false, false, false, false, false, false, false, false] (by kernel_rfl) rfl rfl ⟨cc0, cc1, cc2, cc3, cc4, cc5, below_drew1 (Below.refl _ _)⟩ (fun hHeld => ?_)
                            refine pure_ (i := 2) (N := some 80) (v := ?_) (a' := ?_) #[false, false, true, false, false, false, false, false, false] rfl rfl (by kernel_rfl) (fun _ _ _ h => h) (Or.inl ⟨by rfl, ?_⟩) ?_ ?_
                            rotate_left
                            · intro w'
                              go_simp
                              with_reducible rfl
                            rotate_left
                            · simp only [Act.put, List.setIfInBounds_toArray, List.set_cons_zero, List.set_cons_succ, i64_w, i32_w]
                              rfl
                            refine take_ (i := 0) (N := some 78) (v := ?_) (a' := ?_) #[true, false, true, false, false, false, false, false, false] rfl rfl (by kernel_rfl) (fun _ _ _ h => h) (Or.inl ⟨by rfl, ?_⟩) hHeld ?_ ?_
                            rotate_left
                            · rintro w' ⟨s0, s1, s2, s3, s4, s5, _⟩
                              go_simp
                              with_reducible rfl
                            rotate_left
                            · simp only [Act.put, List.setIfInBounds_toArray, List.set_cons_zero, List.set_cons_succ, i64_w, i32_w]
                              rfl
                            refine take_ (i := 5) (N := some 83) (v := ?_) (a' := ?_) #[true, false, true, false, false, true, false, false, false] rfl rfl (by kernel_rfl) (fun _ _ _ h => h) (Or.inl ⟨by rfl, ?_⟩) hHeld ?_ ?_
                            rotate_left
                            · rintro w' ⟨s0, s1, s2, s3, s4, s5, _⟩
                              go_simp
                              with_reducible rfl
                            rotate_left
                            · simp only [Act.put, List.setIfInBounds_toArray, List.set_cons_zero, List.set_cons_succ, i64_w, i32_w]
                              rfl
                            refine take_ (i := 3) (N := some 81) (v := ?_) (a' := ?_) #[true, false, true, true, false, true, false, false, false] rfl rfl (by kernel_rfl) (fun _ _ _ h => h) (Or.inl ⟨by rfl, ?_⟩) hHeld ?_ ?_
                            rotate_left
                            · rintro w' ⟨s0, s1, s2, s3, s4, s5, _⟩
                              go_simp
                              with_reducible rfl
                            rotate_left
                            · simp only [Act.put, List.setIfInBounds_toArray, List.set_cons_zero, List.set_cons_succ, i64_w, i32_w]
                              rfl
                            refine one_ (i := 1) (N := some 79) #[true, true, true, true, false, true, false, false, false] rfl rfl (by kernel_rfl) (by decide) (fun K hK => ?_)
                            refine goes_ Tryz.func104 (by kernel_rfl) rfl #[.agg (cells43 x A c).toArray, .int .i64 0] (by rfl) rfl rfl (by (try simp only [List.map_toArray, List.map_cons, List.map_nil]); first | done | rfl) ?_
                            refine (ih x _ A c 0 0 rfl (by omega) HX.out HT.out HZ0.out HL.out (Kd.C_below HC.out (below_drew1 (Below.refl W.heap.size W)))).mono ?_
                            rintro e1 w1 ⟨rfl, hb⟩
                            have HB1 := Aside0.mk (below_step (below_drew1 (Below.refl W.heap.size W)) hb)
                            refine ⟨_, rfl, ?_⟩
                            clear hb
                            have z10 := pw_cell_below HB1.out cc0
                            have z11 := pw_cell_below HB1.out cc1
                            have z12 := pw_cell_below HB1.out cc2
                            have z13 := pw_cell_below HB1.out cc3
                            have z14 := pw_cell_below HB1.out cc4
                            have z15 := pw_cell_below HB1.out cc5
                            refine hK.out _ _ ⟨z10, z11, z12, z13, z14, z15, HB1.out⟩ (fun hHeld => ?_)
                            clear hK K
                            refine norm_ (a' := ?_) ?_ ?_
                            rotate_left
                            · show Act.put _ (some 79) _ = _
                              simp only [Act.put, List.setIfInBounds_toArray, List.set_cons_zero, List.set_cons_succ, i64_w, i32_w]
                              rfl
                            clear z10 z11 z12 z13 z14 z15
                            refine pure_ (i := 4) (N := some 82) (v := ?_) (a' := ?_) #[true, true, true, true, true, true, false, false, false] rfl rfl (by kernel_rfl) (fun _ _ _ h => h) (Or.inl ⟨by rfl, ?_⟩) ?_ ?_
                            rotate_left
                            · intro w'
                              go_simp
                              with_reducible rfl
                            rotate_left
                            · simp only [Act.put, List.setIfInBounds_toArray, List.set_cons_zero, List.set_cons_succ, i64_w, i32_w]
                              rfl
                            refine one_ (i := 6) (N := some 84) #[true, true, true, true, true, true, true, false, false] rfl rfl (by kernel_rfl) (by decide) (fun K hK => ?_)
                            refine goes_ Tryz.func104 (by kernel_rfl) rfl #[.agg (cells43 x A c).toArray, .int .i64 1] (by rfl) rfl rfl (by (try simp only [List.map_toArray, List.map_cons, List.map_nil]); first | done | rfl) ?_
                            refine (ih x _ A c 1 1 rfl (by omega) HX.out HT.out HZ1.out HL.out (Kd.C_below HC.out HB1.out)).mono ?_
                            rintro e2 w2 ⟨rfl, hb⟩
                            have HB2 := Aside0.mk (below_step HB1.out hb)
                            refine ⟨_, rfl, ?_⟩
                            clear hb
                            have z20 := pw_cell_below HB2.out cc0
                            have z21 := pw_cell_below HB2.out cc1
                            have z22 := pw_cell_below HB2.out cc2
                            have z23 := pw_cell_below HB2.out cc3
                            have z24 := pw_cell_below HB2.out cc4
                            have z25 := pw_cell_below HB2.out cc5
                            refine hK.out _ _ ⟨z20, z21, z22, z23, z24, z25, HB2.out⟩ (fun hHeld => ?_)
                            clear hK K
                            refine norm_ (a' := ?_) ?_ ?_
                            rotate_left
                            · show Act.put _ (some 84) _ = _
                              simp only [Act.put, List.setIfInBounds_toArray, List.set_cons_zero, List.set_cons_succ, i64_w, i32_w]
                              rfl
                            clear z20 z21 z22 z23 z24 z25
                            refine pure_ (i := 7) (N := some 85) (v := ?_) (a' := ?_) #[true, true, true, true, true, true, true, true, false] rfl rfl (by kernel_rfl) (fun _ _ _ h => h) (Or.inl ⟨by rfl, ?_⟩) ?_ ?_
                            rotate_left
                            · intro w'
                              go_simp
                              with_reducible rfl
                            rotate_left
                            · simp only [Act.put, List.setIfInBounds_toArray, List.set_cons_zero, List.set_cons_succ, i64_w, i32_w]
                              rfl
                            refine pure_ (i := 8) (N := some 2) (v := ?_) (a' := ?_) #[true, true, true, true, true, true, true, true, true] rfl rfl (by kernel_rfl) (fun _ _ _ h => h) (Or.inl ⟨by rfl, ?_⟩) ?_ ?_
                            rotate_left
                            · intro w'
                              go_simp
                              with_reducible rfl
                            rotate_left
                            · simp only [Act.put, List.setIfInBounds_toArray, List.set_cons_zero, List.set_cons_succ, i64_w, i32_w]
                              rfl
                            refine done_ (by kernel_rfl) ?_
                            go_wp2
                            go_ret
                            exact ⟨by rw [HT0.out]; rfl, below_step HB.out HB2.out⟩
                          · have g0 : (x.f0.toList == [61]) = false := by rw [hm]; decide
                            have g1 : (x.f0.toList == [60, 62]) = false := by rw [hm]; decide
                            have g2 : (x.f0.toList == [60]) = false := by rw [hm]; decide
                            have g3 : (x.f0.toList == [60, 61]) = false := by rw [hm]; decide
                            have g4 : (x.f0.toList == [62]) = false := by rw [hm]; decide
                            have g5 : (x.f0.toList == [62, 61]) = false := by rw [hm]; decide
                            have g6 : (x.f0.toList == [43]) = false := by rw [hm]; decide
                            have g7 : (x.f0.toList == [45]) = true := by rw [hm]; decide
                            clear hm
                            go_upto_region 38 with (fail)
                            refine start_ (n := 9) (S := fun w' => w'.cell? ⟨b, 0, none⟩ = some (.string x.f0) ∧ w'.cell? ⟨b, 1, none⟩ = some (.int .i64 x.f1.f0) ∧ w'.cell? ⟨b, 2, none⟩ = some (.int .i64 x.f1.f1) ∧ w'.cell? ⟨b, 3, none⟩ = some (.string x.f1.f2) ∧ w'.cell? ⟨b, 4, none⟩ = some (.string x.f2) ∧ w'.cell? ⟨b, 5, none⟩ = some (.slice A x.f3.length c) ∧ Below W.heap.size W w') (ds := []) #[false, false, false, false, false, false, false, false, false] (by kernel_rfl) rfl rfl ⟨cc0, cc1, cc2, cc3, cc4, cc5, below_drew1 (Below.refl _ _)⟩ (fun hHeld => ?_)
                            refine pure_ (i := 2) (N := some 80) (v := ?_) (a' := ?_) #[false, false, true, false, false, false, false, false, false] rfl rfl (by kernel_rfl) (fun _ _ _ h => h) (Or.inl ⟨by rfl, ?_⟩) ?_ ?_
                            rotate_left
                            · intro w'
                              go_simp
                              with_reducible rfl
                            rotate_left
                            · simp only [Act.put, List.setIfInBounds_toArray, List.set_cons_zero, List.set_cons_succ, i64_w, i32_w]
                              rfl
                            refine take_ (i := 0) (N := some 78) (v := ?_) (a' := ?_) #[true, false, true, false, false, false, false, false, false] rfl rfl (by kernel_rfl) (fun _ _ _ h => h) (Or.inl ⟨by rfl, ?_⟩) hHeld ?_ ?_
                            rotate_left
                            · rintro w' ⟨s0, s1, s2, s3, s4, s5, _⟩
                              go_simp
                              with_reducible rfl
                            rotate_left
                            · simp only [Act.put, List.setIfInBounds_toArray, List.set_cons_zero, List.set_cons_succ, i64_w, i32_w]
                              rfl
                            refine take_ (i := 5) (N := some 83) (v := ?_) (a' := ?_) #[true, false, true, false, false, true, false, false, false] rfl rfl (by kernel_rfl) (fun _ _ _ h => h) (Or.inl ⟨by rfl, ?_⟩) hHeld ?_ ?_
                            rotate_left
                            · rintro w' ⟨s0, s1, s2, s3, s4, s5, _⟩
                              go_simp
                              with_reducible rfl
                            rotate_left
                            · simp only [Act.put, List.setIfInBounds_toArray, List.set_cons_zero, List.set_cons_succ, i64_w, i32_w]
                              rfl
                            refine take_ (i := 3) (N := some 81) (v := ?_) (a' := ?_) #[true, false, true, true, false, true, false, false, false] rfl rfl (by kernel_rfl) (fun _ _ _ h => h) (Or.inl ⟨by rfl, ?_⟩) hHeld ?_ ?_
                            rotate_left
                            · rintro w' ⟨s0, s1, s2, s3, s4, s5, _⟩
                              go_simp
                              with_reducible rfl
                            rotate_left
                            · simp only [Act.put, List.setIfInBounds_toArray, List.set_cons_zero, List.set_cons_succ, i64_w, i32_w]
                              rfl
                            refine one_ (i := 1) (N := some 79) #[true, true, true, true, false, true, false, false, false] rfl rfl (by kernel_rfl) (by decide) (fun K hK => ?_)
                            refine goes_ Tryz.func104 (by kernel_rfl) rfl #[.agg (cells43 x A c).toArray, .int .i64 0] (by rfl) rfl rfl (by (try simp only [List.map_toArray, List.map_cons, List.map_nil]); first | done | rfl) ?_
                            refine (ih x _ A c 0 0 rfl (by omega) HX.out HT.out HZ0.out HL.out (Kd.C_below HC.out (below_drew1 (Below.refl W.heap.size W)))).mono ?_
                            rintro e1 w1 ⟨rfl, hb⟩
                            have HB1 := Aside0.mk (below_step (below_drew1 (Below.refl W.heap.size W)) hb)
                            refine ⟨_, rfl, ?_⟩
                            clear hb
                            have z10 := pw_cell_below HB1.out cc0
                            have z11 := pw_cell_below HB1.out cc1
                            have z12 := pw_cell_below HB1.out cc2
                            have z13 := pw_cell_below HB1.out cc3
                            have z14 := pw_cell_below HB1.out cc4
                            have z15 := pw_cell_below HB1.out cc5
                            refine hK.out _ _ ⟨z10, z11, z12, z13, z14, z15, HB1.out⟩ (fun hHeld => ?_)
                            clear hK K
                            refine norm_ (a' := ?_) ?_ ?_
                            rotate_left
                            · show Act.put _ (some 79) _ = _
                              simp only [Act.put, List.setIfInBounds_toArray, List.set_cons_zero, List.set_cons_succ, i64_w, i32_w]
                              rfl
                            clear z10 z11 z12 z13 z14 z15
                            refine pure_ (i := 4) (N := some 82) (v := ?_) (a' := ?_) #[true, true, true, true, true, true, false, false, false] rfl rfl (by kernel_rfl) (fun _ _ _ h => h) (Or.inl ⟨by rfl, ?_⟩) ?_ ?_
                            rotate_left
                            · intro w'
                              go_simp
                              with_reducible rfl
                            rotate_left
                            · simp only [Act.put, List.setIfInBounds_toArray, List.set_cons_zero, List.set_cons_succ, i64_w, i32_w]
                              rfl
                            refine one_ (i := 6) (N := some 84) #[true, true, true, true, true, true, true, false, false] rfl rfl (by kernel_rfl) (by decide) (fun K hK => ?_)
                            refine goes_ Tryz.func104 (by kernel_rfl) rfl #[.agg (cells43 x A c).toArray, .int .i64 1] (by rfl) rfl rfl (by (try simp only [List.map_toArray, List.map_cons, List.map_nil]); first | done | rfl) ?_
                            refine (ih x _ A c 1 1 rfl (by omega) HX.out HT.out HZ1.out HL.out (Kd.C_below HC.out HB1.out)).mono ?_
                            rintro e2 w2 ⟨rfl, hb⟩
                            have HB2 := Aside0.mk (below_step HB1.out hb)
                            refine ⟨_, rfl, ?_⟩
                            clear hb
                            have z20 := pw_cell_below HB2.out cc0
                            have z21 := pw_cell_below HB2.out cc1
                            have z22 := pw_cell_below HB2.out cc2
                            have z23 := pw_cell_below HB2.out cc3
                            have z24 := pw_cell_below HB2.out cc4
                            have z25 := pw_cell_below HB2.out cc5
                            refine hK.out _ _ ⟨z20, z21, z22, z23, z24, z25, HB2.out⟩ (fun hHeld => ?_)
                            clear hK K
                            refine norm_ (a' := ?_) ?_ ?_
                            rotate_left
                            · show Act.put _ (some 84) _ = _
                              simp only [Act.put, List.setIfInBounds_toArray, List.set_cons_zero, List.set_cons_succ, i64_w, i32_w]
                              rfl
                            clear z20 z21 z22 z23 z24 z25
                            refine pure_ (i := 7) (N := some 85) (v := ?_) (a' := ?_) #[true, true, true, true, true, true, true, true, false] rfl rfl (by kernel_rfl) (fun _ _ _ h => h) (Or.inl ⟨by rfl, ?_⟩) ?_ ?_
                            rotate_left
                            · intro w'
                              go_simp
                              with_reducible rfl
                            rotate_left
                            · simp only [Act.put, List.setIfInBounds_toArray, List.set_cons_zero, List.set_cons_succ, i64_w, i32_w]
                              rfl
                            refine pure_ (i := 8) (N := some 2) (v := ?_) (a' := ?_) #[true, true, true, true, true, true, true, true, true] rfl rfl (by kernel_rfl) (fun _ _ _ h => h) (Or.inl ⟨by rfl, ?_⟩) ?_ ?_
                            rotate_left
                            · intro w'
                              go_simp
                              with_reducible rfl
                            rotate_left
                            · simp only [Act.put, List.setIfInBounds_toArray, List.set_cons_zero, List.set_cons_succ, i64_w, i32_w]
                              rfl
                            refine done_ (by kernel_rfl) ?_
                            go_wp2
                            go_ret
                            exact ⟨by rw [HT0.out]; rfl, below_step HB.out HB2.out⟩
                          · have g0 : (x.f0.toList == [61]) = false := by rw [hm]; decide
                            have g1 : (x.f0.toList == [60, 62]) = false := by rw [hm]; decide
                            have g2 : (x.f0.toList == [60]) = false := by rw [hm]; decide
                            have g3 : (x.f0.toList == [60, 61]) = false := by rw [hm]; decide
                            have g4 : (x.f0.toList == [62]) = false := by rw [hm]; decide
                            have g5 : (x.f0.toList == [62, 61]) = false := by rw [hm]; decide
                            have g6 : (x.f0.toList == [43]) = false := by rw [hm]; decide
                            have g7 : (x.f0.toList == [45]) = false := by rw [hm]; decide
                            have g8 : (x.f0.toList == [124, 124]) = true := by rw [hm]; decide
                            clear hm
                            go_upto_region 38 with (fail)
                            refine start_ (n := 9) (S := fun w' => w'.cell? ⟨b, 0, none⟩ = some (.string x.f0) ∧ w'.cell? ⟨b, 1, none⟩ = some (.int .i64 x.f1.f0) ∧ w'.cell? ⟨b, 2, none⟩ = some (.int .i64 x.f1.f1) ∧ w'.cell? ⟨b, 3, none⟩ = some (.string x.f1.f2) ∧ w'.cell? ⟨b, 4, none⟩ = some (.string x.f2) ∧ w'.cell? ⟨b, 5, none⟩ = some (.slice A x.f3.length c) ∧ Below W.heap.size W w') (ds := []) #[false, false, false, false, false, false, false, false, false] (by kernel_rfl) rfl rfl ⟨cc0, cc1, cc2, cc3, cc4, cc5, below_drew1 (Below.refl _ _)⟩ (fun hHeld => ?_)
                            refine pure_ (i := 2) (N := some 80) (v := ?_) (a' := ?_) #[false, false, true, false, false, false, false, false, false] rfl rfl (by kernel_rfl) (fun _ _ _ h => h) (Or.inl ⟨by rfl, ?_⟩) ?_ ?_
                            rotate_left
                            · intro w'
                              go_simp
                              with_reducible rfl
                            rotate_left
                            · simp only [Act.put, List.setIfInBounds_toArray, List.set_cons_zero, List.set_cons_succ, i64_w, i32_w]
                              rfl
                            refine take_ (i := 0) (N := some 78) (v := ?_) (a' := ?_) #[true, false, true, false, false, false, false, false, false] rfl rfl (by kernel_rfl) (fun _ _ _ h => h) (Or.inl ⟨by rfl, ?_⟩) hHeld ?_ ?_
                            rotate_left
                            · rintro w' ⟨s0, s1, s2, s3, s4, s5, _⟩
                              go_simp
                              with_reducible rfl
                            rotate_left
                            · simp only [Act.put, List.setIfInBounds_toArray, List.set_cons_zero, List.set_cons_succ, i64_w, i32_w]
                              rfl
                            refine take_ (i := 5) (N := some 83) (v := ?_) (a' := ?_) #[true, false, true, false, false, true, false, false, false] rfl rfl (by kernel_rfl) (fun _ _ _ h => h) (Or.inl ⟨by rfl, ?_⟩) hHeld ?_ ?_
                            rotate_left
                            · rintro w' ⟨s0, s1, s2, s3, s4, s5, _⟩
                              go_simp
                              with_reducible rfl
                            rotate_left
                            · simp only [Act.put, List.setIfInBounds_toArray, List.set_cons_zero, List.set_cons_succ, i64_w, i32_w]
                              rfl
                            refine take_ (i := 3) (N := some 81) (v := ?_) (a' := ?_) #[true, false, true, true, false, true, false, false, false] rfl rfl (by kernel_rfl) (fun _ _ _ h => h) (Or.inl ⟨by rfl, ?_⟩) hHeld ?_ ?_
                            rotate_left
                            · rintro w' ⟨s0, s1, s2, s3, s4, s5, _⟩
                              go_simp
                              with_reducible rfl
                            rotate_left
                            · simp only [Act.put, List.setIfInBounds_toArray, List.set_cons_zero, List.set_cons_succ, i64_w, i32_w]
                              rfl
                            refine one_ (i := 1) (N := some 79) #[true, true, true, true, false, true, false, false, false] rfl rfl (by kernel_rfl) (by decide) (fun K hK => ?_)
                            refine goes_ Tryz.func104 (by kernel_rfl) rfl #[.agg (cells43 x A c).toArray, .int .i64 0] (by rfl) rfl rfl (by (try simp only [List.map_toArray, List.map_cons, List.map_nil]); first | done | rfl) ?_
                            refine (ih x _ A c 0 0 rfl (by omega) HX.out HT.out HZ0.out HL.out (Kd.C_below HC.out (below_drew1 (Below.refl W.heap.size W)))).mono ?_
                            rintro e1 w1 ⟨rfl, hb⟩
                            have HB1 := Aside0.mk (below_step (below_drew1 (Below.refl W.heap.size W)) hb)
                            refine ⟨_, rfl, ?_⟩
                            clear hb
                            have z10 := pw_cell_below HB1.out cc0
                            have z11 := pw_cell_below HB1.out cc1
                            have z12 := pw_cell_below HB1.out cc2
                            have z13 := pw_cell_below HB1.out cc3
                            have z14 := pw_cell_below HB1.out cc4
                            have z15 := pw_cell_below HB1.out cc5
                            refine hK.out _ _ ⟨z10, z11, z12, z13, z14, z15, HB1.out⟩ (fun hHeld => ?_)
                            clear hK K
                            refine norm_ (a' := ?_) ?_ ?_
                            rotate_left
                            · show Act.put _ (some 79) _ = _
                              simp only [Act.put, List.setIfInBounds_toArray, List.set_cons_zero, List.set_cons_succ, i64_w, i32_w]
                              rfl
                            clear z10 z11 z12 z13 z14 z15
                            refine pure_ (i := 4) (N := some 82) (v := ?_) (a' := ?_) #[true, true, true, true, true, true, false, false, false] rfl rfl (by kernel_rfl) (fun _ _ _ h => h) (Or.inl ⟨by rfl, ?_⟩) ?_ ?_
                            rotate_left
                            · intro w'
                              go_simp
                              with_reducible rfl
                            rotate_left
                            · simp only [Act.put, List.setIfInBounds_toArray, List.set_cons_zero, List.set_cons_succ, i64_w, i32_w]
                              rfl
                            refine one_ (i := 6) (N := some 84) #[true, true, true, true, true, true, true, false, false] rfl rfl (by kernel_rfl) (by decide) (fun K hK => ?_)
                            refine goes_ Tryz.func104 (by kernel_rfl) rfl #[.agg (cells43 x A c).toArray, .int .i64 1] (by rfl) rfl rfl (by (try simp only [List.map_toArray, List.map_cons, List.map_nil]); first | done | rfl) ?_
                            refine (ih x _ A c 1 1 rfl (by omega) HX.out HT.out HZ1.out HL.out (Kd.C_below HC.out HB1.out)).mono ?_
                            rintro e2 w2 ⟨rfl, hb⟩
                            have HB2 := Aside0.mk (below_step HB1.out hb)
                            refine ⟨_, rfl, ?_⟩
                            clear hb
                            have z20 := pw_cell_below HB2.out cc0
                            have z21 := pw_cell_below HB2.out cc1
                            have z22 := pw_cell_below HB2.out cc2
                            have z23 := pw_cell_below HB2.out cc3
                            have z24 := pw_cell_below HB2.out cc4
                            have z25 := pw_cell_below HB2.out cc5
                            refine hK.out _ _ ⟨z20, z21, z22, z23, z24, z25, HB2.out⟩ (fun hHeld => ?_)
                            clear hK K
                            refine norm_ (a' := ?_) ?_ ?_
                            rotate_left
                            · show Act.put _ (some 84) _ = _
                              simp only [Act.put, List.setIfInBounds_toArray, List.set_cons_zero, List.set_cons_succ, i64_w, i32_w]
                              rfl
                            clear z20 z21 z22 z23 z24 z25
                            refine pure_ (i := 7) (N := some 85) (v := ?_) (a' := ?_) #[true, true, true, true, true, true, true, true, false] rfl rfl (by kernel_rfl) (fun _ _ _ h => h) (Or.inl ⟨by rfl, ?_⟩) ?_ ?_
                            rotate_left
                            · intro w'
                              go_simp
                              with_reducible rfl
                            rotate_left
                            · simp only [Act.put, List.setIfInBounds_toArray, List.set_cons_zero, List.set_cons_succ, i64_w, i32_w]
                              rfl
                            refine pure_ (i := 8) (N := some 2) (v := ?_) (a' := ?_) #[true, true, true, true, true, true, true, true, true] rfl rfl (by kernel_rfl) (fun _ _ _ h => h) (Or.inl ⟨by rfl, ?_⟩) ?_ ?_
                            rotate_left
                            · intro w'
                              go_simp
                              with_reducible rfl
                            rotate_left
                            · simp only [Act.put, List.setIfInBounds_toArray, List.set_cons_zero, List.set_cons_succ, i64_w, i32_w]
                              rfl
                            refine done_ (by kernel_rfl) ?_
                            go_wp2
                            go_ret
                            exact ⟨by rw [HT0.out]; rfl, below_step HB.out HB2.out⟩
                          · have g0 : (x.f0.toList == [61]) = false := by rw [hm]; decide
                            have g1 : (x.f0.toList == [60, 62]) = false := by rw [hm]; decide
                            have g2 : (x.f0.toList == [60]) = false := by rw [hm]; decide
                            have g3 : (x.f0.toList == [60, 61]) = false := by rw [hm]; decide
                            have g4 : (x.f0.toList == [62]) = false := by rw [hm]; decide
                            have g5 : (x.f0.toList == [62, 61]) = false := by rw [hm]; decide
                            have g6 : (x.f0.toList == [43]) = false := by rw [hm]; decide
                            have g7 : (x.f0.toList == [45]) = false := by rw [hm]; decide
                            have g8 : (x.f0.toList == [124, 124]) = false := by rw [hm]; decide
                            have g9 : (x.f0.toList == [42]) = true := by rw [hm]; decide
                            clear hm
                            go_upto_region 38 with (fail)
                            refine start_ (n := 9) (S := fun w' => w'.cell? ⟨b, 0, none⟩ = some (.string x.f0) ∧ w'.cell? ⟨b, 1, none⟩ = some (.int .i64 x.f1.f0) ∧ w'.cell? ⟨b, 2, none⟩ = some (.int .i64 x.f1.f1) ∧ w'.cell? ⟨b, 3, none⟩ = some (.string x.f1.f2) ∧ w'.cell? ⟨b, 4, none⟩ = some (.string x.f2) ∧ w'.cell? ⟨b, 5, none⟩ = some (.slice A x.f3.length c) ∧ Below W.heap.size W w') (ds := []) #[false, false, false, false, false, false, false, false, false] (by kernel_rfl) rfl rfl ⟨cc0, cc1, cc2, cc3, cc4, cc5, below_drew1 (Below.refl _ _)⟩ (fun hHeld => ?_)
                            refine pure_ (i := 2) (N := some 80) (v := ?_) (a' := ?_) #[false, false, true, false, false, false, false, false, false] rfl rfl (by kernel_rfl) (fun _ _ _ h => h) (Or.inl ⟨by rfl, ?_⟩) ?_ ?_
                            rotate_left
                            · intro w'
                              go_simp
                              with_reducible rfl
                            rotate_left
                            · simp only [Act.put, List.setIfInBounds_toArray, List.set_cons_zero, List.set_cons_succ, i64_w, i32_w]
                              rfl
                            refine take_ (i := 0) (N := some 78) (v := ?_) (a' := ?_) #[true, false, true, false, false, false, false, false, false] rfl rfl (by kernel_rfl) (fun _ _ _ h => h) (Or.inl ⟨by rfl, ?_⟩) hHeld ?_ ?_
                            rotate_left
                            · rintro w' ⟨s0, s1, s2, s3, s4, s5, _⟩
                              go_simp
                              with_reducible rfl
                            rotate_left
                            · simp only [Act.put, List.setIfInBounds_toArray, List.set_cons_zero, List.set_cons_succ, i64_w, i32_w]
                              rfl
                            refine take_ (i := 5) (N := some 83) (v := ?_) (a' := ?_) #[true, false, true, false, false, true, false, false, false] rfl rfl (by kernel_rfl) (fun _ _ _ h => h) (Or.inl ⟨by rfl, ?_⟩) hHeld ?_ ?_
                            rotate_left
                            · rintro w' ⟨s0, s1, s2, s3, s4, s5, _⟩
                              go_simp
                              with_reducible rfl
                            rotate_left
                            · simp only [Act.put, List.setIfInBounds_toArray, List.set_cons_zero, List.set_cons_succ, i64_w, i32_w]
                              rfl
                            refine take_ (i := 3) (N := some 81) (v := ?_) (a' := ?_) #[true, false, true, true, false, true, false, false, false] rfl rfl (by kernel_rfl) (fun _ _ _ h => h) (Or.inl ⟨by rfl, ?_⟩) hHeld ?_ ?_
                            rotate_left
                            · rintro w' ⟨s0, s1, s2, s3, s4, s5, _⟩
                              go_simp
                              with_reducible rfl
                            rotate_left
                            · simp only [Act.put, List.setIfInBounds_toArray, List.set_cons_zero, List.set_cons_succ, i64_w, i32_w]
                              rfl
                            refine one_ (i := 1) (N := some 79) #[true, true, true, true, false, true, false, false, false] rfl rfl (by kernel_rfl) (by decide) (fun K hK => ?_)
                            refine goes_ Tryz.func104 (by kernel_rfl) rfl #[.agg (cells43 x A c).toArray, .int .i64 0] (by rfl) rfl rfl (by (try simp only [List.map_toArray, List.map_cons, List.map_nil]); first | done | rfl) ?_
                            refine (ih x _ A c 0 0 rfl (by omega) HX.out HT.out HZ0.out HL.out (Kd.C_below HC.out (below_drew1 (Below.refl W.heap.size W)))).mono ?_
                            rintro e1 w1 ⟨rfl, hb⟩
                            have HB1 := Aside0.mk (below_step (below_drew1 (Below.refl W.heap.size W)) hb)
                            refine ⟨_, rfl, ?_⟩
                            clear hb
                            have z10 := pw_cell_below HB1.out cc0
                            have z11 := pw_cell_below HB1.out cc1
                            have z12 := pw_cell_below HB1.out cc2
                            have z13 := pw_cell_below HB1.out cc3
                            have z14 := pw_cell_below HB1.out cc4
                            have z15 := pw_cell_below HB1.out cc5
                            refine hK.out _ _ ⟨z10, z11, z12, z13, z14, z15, HB1.out⟩ (fun hHeld => ?_)
                            clear hK K
                            refine norm_ (a' := ?_) ?_ ?_
                            rotate_left
                            · show Act.put _ (some 79) _ = _
                              simp only [Act.put, List.setIfInBounds_toArray, List.set_cons_zero, List.set_cons_succ, i64_w, i32_w]
                              rfl
                            clear z10 z11 z12 z13 z14 z15
                            refine pure_ (i := 4) (N := some 82) (v := ?_) (a' := ?_) #[true, true, true, true, true, true, false, false, false] rfl rfl (by kernel_rfl) (fun _ _ _ h => h) (Or.inl ⟨by rfl, ?_⟩) ?_ ?_
                            rotate_left
                            · intro w'
                              go_simp
                              with_reducible rfl
                            rotate_left
                            · simp only [Act.put, List.setIfInBounds_toArray, List.set_cons_zero, List.set_cons_succ, i64_w, i32_w]
                              rfl
                            refine one_ (i := 6) (N := some 84) #[true, true, true, true, true, true, true, false, false] rfl rfl (by kernel_rfl) (by decide) (fun K hK => ?_)
                            refine goes_ Tryz.func104 (by kernel_rfl) rfl #[.agg (cells43 x A c).toArray, .int .i64 1] (by rfl) rfl rfl (by (try simp only [List.map_toArray, List.map_cons, List.map_nil]); first | done | rfl) ?_
                            refine (ih x _ A c 1 1 rfl (by omega) HX.out HT.out HZ1.out HL.out (Kd.C_below HC.out HB1.out)).mono ?_
                            rintro e2 w2 ⟨rfl, hb⟩
                            have HB2 := Aside0.mk (below_step HB1.out hb)
                            refine ⟨_, rfl, ?_⟩
                            clear hb
                            have z20 := pw_cell_below HB2.out cc0
                            have z21 := pw_cell_below HB2.out cc1
                            have z22 := pw_cell_below HB2.out cc2
                            have z23 := pw_cell_below HB2.out cc3
                            have z24 := pw_cell_below HB2.out cc4
                            have z25 := pw_cell_below HB2.out cc5
                            refine hK.out _ _ ⟨z20, z21, z22, z23, z24, z25, HB2.out⟩ (fun hHeld => ?_)
                            clear hK K
                            refine norm_ (a' := ?_) ?_ ?_
                            rotate_left
                            · show Act.put _ (some 84) _ = _
                              simp only [Act.put, List.setIfInBounds_toArray, List.set_cons_zero, List.set_cons_succ, i64_w, i32_w]
                              rfl
                            clear z20 z21 z22 z23 z24 z25
                            refine pure_ (i := 7) (N := some 85) (v := ?_) (a' := ?_) #[true, true, true, true, true, true, true, true, false] rfl rfl (by kernel_rfl) (fun _ _ _ h => h) (Or.inl ⟨by rfl, ?_⟩) ?_ ?_
                            rotate_left
                            · intro w'
                              go_simp
                              with_reducible rfl
                            rotate_left
                            · simp only [Act.put, List.setIfInBounds_toArray, List.set_cons_zero, List.set_cons_succ, i64_w, i32_w]
                              rfl
                            refine pure_ (i := 8) (N := some 2) (v := ?_) (a' := ?_) #[true, true, true, true, true, true, true, true, true] rfl rfl (by kernel_rfl) (fun _ _ _ h => h) (Or.inl ⟨by rfl, ?_⟩) ?_ ?_
                            rotate_left
                            · intro w'
                              go_simp
                              with_reducible rfl
                            rotate_left
                            · simp only [Act.put, List.setIfInBounds_toArray, List.set_cons_zero, List.set_cons_succ, i64_w, i32_w]
                              rfl
                            refine done_ (by kernel_rfl) ?_
                            go_wp2
                            go_ret
                            exact ⟨by rw [HT0.out]; rfl, below_step HB.out HB2.out⟩
                          · have g0 : (x.f0.toList == [61]) = false := by rw [hm]; decide
                            have g1 : (x.f0.toList == [60, 62]) = false := by rw [hm]; decide
                            have g2 : (x.f0.toList == [60]) = false := by rw [hm]; decide
                            have g3 : (x.f0.toList == [60, 61]) = false := by rw [hm]; decide
                            have g4 : (x.f0.toList == [62]) = false := by rw [hm]; decide
                            have g5 : (x.f0.toList == [62, 61]) = false := by rw [hm]; decide
                            have g6 : (x.f0.toList == [43]) = false := by rw [hm]; decide
                            have g7 : (x.f0.toList == [45]) = false := by rw [hm]; decide
                            have g8 : (x.f0.toList == [124, 124]) = false := by rw [hm]; decide
                            have g9 : (x.f0.toList == [42]) = false := by rw [hm]; decide
                            have g10 : (x.f0.toList == [47]) = true := by rw [hm]; decide
                            clear hm
                            go_upto_region 38 with (fail)
                            refine start_ (n := 9) (S := fun w' => w'.cell? ⟨b, 0, none⟩ = some (.string x.f0) ∧ w'.cell? ⟨b, 1, none⟩ = some (.int .i64 x.f1.f0) ∧ w'.cell? ⟨b, 2, none⟩ = some (.int .i64 x.f1.f1) ∧ w'.cell? ⟨b, 3, none⟩ = some (.string x.f1.f2) ∧ w'.cell? ⟨b, 4, none⟩ = some (.string x.f2) ∧ w'.cell? ⟨b, 5, none⟩ = some (.slice A x.f3.length c) ∧ Below W.heap.size W w') (ds := []) #[false, false, false, false, false, false, false, false, false] (by kernel_rfl) rfl rfl ⟨cc0, cc1, cc2, cc3, cc4, cc5, below_drew1 (Below.refl _ _)⟩ (fun hHeld => ?_)
                            refine pure_ (i := 2) (N := some 80) (v := ?_) (a' := ?_) #[false, false, true, false, false, false, false, false, false] rfl rfl (by kernel_rfl) (fun _ _ _ h => h) (Or.inl ⟨by rfl, ?_⟩) ?_ ?_
                            rotate_left
                            · intro w'
                              go_simp
                              with_reducible rfl
                            rotate_left
                            · simp only [Act.put, List.setIfInBounds_toArray, List.set_cons_zero, List.set_cons_succ, i64_w, i32_w]
                              rfl
                            refine take_ (i := 0) (N := some 78) (v := ?_) (a' := ?_) #[true, false, true, false, false, false, false, false, false] rfl rfl (by kernel_rfl) (fun _ _ _ h => h) (Or.inl ⟨by rfl, ?_⟩) hHeld ?_ ?_
                            rotate_left
                            · rintro w' ⟨s0, s1, s2, s3, s4, s5, _⟩
                              go_simp
                              with_reducible rfl
                            rotate_left
                            · simp only [Act.put, List.setIfInBounds_toArray, List.set_cons_zero, List.set_cons_succ, i64_w, i32_w]
                              rfl
                            refine take_ (i := 5) (N := some 83) (v := ?_) (a' := ?_) #[true, false, true, false, false, true, false, false, false] rfl rfl (by kernel_rfl) (fun _ _ _ h => h) (Or.inl ⟨by rfl, ?_⟩) hHeld ?_ ?_
                            rotate_left
                            · rintro w' ⟨s0, s1, s2, s3, s4, s5, _⟩
                              go_simp
                              with_reducible rfl
                            rotate_left
                            · simp only [Act.put, List.setIfInBounds_toArray, List.set_cons_zero, List.set_cons_succ, i64_w, i32_w]
                              rfl
                            refine take_ (i := 3) (N := some 81) (v := ?_) (a' := ?_) #[true, false, true, true, false, true, false, false, false] rfl rfl (by kernel_rfl) (fun _ _ _ h => h) (Or.inl ⟨by rfl, ?_⟩) hHeld ?_ ?_
                            rotate_left
                            · rintro w' ⟨s0, s1, s2, s3, s4, s5, _⟩
                              go_simp
                              with_reducible rfl
                            rotate_left
                            · simp only [Act.put, List.setIfInBounds_toArray, List.set_cons_zero, List.set_cons_succ, i64_w, i32_w]
                              rfl
                            refine one_ (i := 1) (N := some 79) #[true, true, true, true, false, true, false, false, false] rfl rfl (by kernel_rfl) (by decide) (fun K hK => ?_)
                            refine goes_ Tryz.func104 (by kernel_rfl) rfl #[.agg (cells43 x A c).toArray, .int .i64 0] (by rfl) rfl rfl (by (try simp only [List.map_toArray, List.map_cons, List.map_nil]); first | done | rfl) ?_
                            refine (ih x _ A c 0 0 rfl (by omega) HX.out HT.out HZ0.out HL.out (Kd.C_below HC.out (below_drew1 (Below.refl W.heap.size W)))).mono ?_
                            rintro e1 w1 ⟨rfl, hb⟩
                            have HB1 := Aside0.mk (below_step (below_drew1 (Below.refl W.heap.size W)) hb)
                            refine ⟨_, rfl, ?_⟩
                            clear hb
                            have z10 := pw_cell_below HB1.out cc0
                            have z11 := pw_cell_below HB1.out cc1
                            have z12 := pw_cell_below HB1.out cc2
                            have z13 := pw_cell_below HB1.out cc3
                            have z14 := pw_cell_below HB1.out cc4
                            have z15 := pw_cell_below HB1.out cc5
                            refine hK.out _ _ ⟨z10, z11, z12, z13, z14, z15, HB1.out⟩ (fun hHeld => ?_)
                            clear hK K
                            refine norm_ (a' := ?_) ?_ ?_
                            rotate_left
                            · show Act.put _ (some 79) _ = _
                              simp only [Act.put, List.setIfInBounds_toArray, List.set_cons_zero, List.set_cons_succ, i64_w, i32_w]
                              rfl
                            clear z10 z11 z12 z13 z14 z15
                            refine pure_ (i := 4) (N := some 82) (v := ?_) (a' := ?_) #[true, true, true, true, true, true, false, false, false] rfl rfl (by kernel_rfl) (fun _ _ _ h => h) (Or.inl ⟨by rfl, ?_⟩) ?_ ?_
                            rotate_left
                            · intro w'
                              go_simp
                              with_reducible rfl
                            rotate_left
                            · simp only [Act.put, List.setIfInBounds_toArray, List.set_cons_zero, List.set_cons_succ, i64_w, i32_w]
                              rfl
                            refine one_ (i := 6) (N := some 84) #[true, true, true, true, true, true, true, false, false] rfl rfl (by kernel_rfl) (by decide) (fun K hK => ?_)
                            refine goes_ Tryz.func104 (by kernel_rfl) rfl #[.agg (cells43 x A c).toArray, .int .i64 1] (by rfl) rfl rfl (by (try simp only [List.map_toArray, List.map_cons, List.map_nil]); first | done | rfl) ?_
                            refine (ih x _ A c 1 1 rfl (by omega) HX.out HT.out HZ1.out HL.out (Kd.C_below HC.out HB1.out)).mono ?_
                            rintro e2 w2 ⟨rfl, hb⟩
                            have HB2 := Aside0.mk (below_step HB1.out hb)
                            refine ⟨_, rfl, ?_⟩
                            clear hb
                            have z20 := pw_cell_below HB2.out cc0
                            have z21 := pw_cell_below HB2.out cc1
                            have z22 := pw_cell_below HB2.out cc2
                            have z23 := pw_cell_below HB2.out cc3
                            have z24 := pw_cell_below HB2.out cc4
                            have z25 := pw_cell_below HB2.out cc5
                            refine hK.out _ _ ⟨z20, z21, z22, z23, z24, z25, HB2.out⟩ (fun hHeld => ?_)
                            clear hK K
                            refine norm_ (a' := ?_) ?_ ?_
                            rotate_left
                            · show Act.put _ (some 84) _ = _
                              simp only [Act.put, List.setIfInBounds_toArray, List.set_cons_zero, List.set_cons_succ, i64_w, i32_w]
                              rfl
                            clear z20 z21 z22 z23 z24 z25
                            refine pure_ (i := 7) (N := some 85) (v := ?_) (a' := ?_) #[true, true, true, true, true, true, true, true, false] rfl rfl (by kernel_rfl) (fun _ _ _ h => h) (Or.inl ⟨by rfl, ?_⟩) ?_ ?_
                            rotate_left
                            · intro w'
                              go_simp
                              with_reducible rfl
                            rotate_left
                            · simp only [Act.put, List.setIfInBounds_toArray, List.set_cons_zero, List.set_cons_succ, i64_w, i32_w]
                              rfl
                            refine pure_ (i := 8) (N := some 2) (v := ?_) (a' := ?_) #[true, true, true, true, true, true, true, true, true] rfl rfl (by kernel_rfl) (fun _ _ _ h => h) (Or.inl ⟨by rfl, ?_⟩) ?_ ?_
                            rotate_left
                            · intro w'
                              go_simp
                              with_reducible rfl
                            rotate_left
                            · simp only [Act.put, List.setIfInBounds_toArray, List.set_cons_zero, List.set_cons_succ, i64_w, i32_w]
                              rfl
                            refine done_ (by kernel_rfl) ?_
                            go_wp2
                            go_ret
                            exact ⟨by rw [HT0.out]; rfl, below_step HB.out HB2.out⟩
                          · have g0 : (x.f0.toList == [61]) = false := by rw [hm]; decide
                            have g1 : (x.f0.toList == [60, 62]) = false := by rw [hm]; decide
                            have g2 : (x.f0.toList == [60]) = false := by rw [hm]; decide
                            have g3 : (x.f0.toList == [60, 61]) = false := by rw [hm]; decide
                            have g4 : (x.f0.toList == [62]) = false := by rw [hm]; decide
                            have g5 : (x.f0.toList == [62, 61]) = false := by rw [hm]; decide
                            have g6 : (x.f0.toList == [43]) = false := by rw [hm]; decide
                            have g7 : (x.f0.toList == [45]) = false := by rw [hm]; decide
                            have g8 : (x.f0.toList == [124, 124]) = false := by rw [hm]; decide
                            have g9 : (x.f0.toList == [42]) = false := by rw [hm]; decide
                            have g10 : (x.f0.toList == [47]) = false := by rw [hm]; decide
                            have g11 : (x.f0.toList == [37]) = true := by rw [hm]; decide
                            clear hm
                            go_upto_region 38 with (fail)
                            refine start_ (n := 9) (S := fun w' => w'.cell? ⟨b, 0, none⟩ = some (.string x.f0) ∧ w'.cell? ⟨b, 1, none⟩ = some (.int .i64 x.f1.f0) ∧ w'.cell? ⟨b, 2, none⟩ = some (.int .i64 x.f1.f1) ∧ w'.cell? ⟨b, 3, none⟩ = some (.string x.f1.f2) ∧ w'.cell? ⟨b, 4, none⟩ = some (.string x.f2) ∧ w'.cell? ⟨b, 5, none⟩ = some (.slice A x.f3.length c) ∧ Below W.heap.size W w') (ds := []) #[false, false, false, false, false, false, false, false, false] (by kernel_rfl) rfl rfl ⟨cc0, cc1, cc2, cc3, cc4, cc5, below_drew1 (Below.refl _ _)⟩ (fun hHeld => ?_)
                            refine pure_ (i := 2) (N := some 80) (v := ?_) (a' := ?_) #[false, false, true, false, false, false, false, false, false] rfl rfl (by kernel_rfl) (fun _ _ _ h => h) (Or.inl ⟨by rfl, ?_⟩) ?_ ?_
                            rotate_left
                            · intro w'
                              go_simp
                              with_reducible rfl
                            rotate_left
                            · simp only [Act.put, List.setIfInBounds_toArray, List.set_cons_zero, List.set_cons_succ, i64_w, i32_w]
                              rfl
                            refine take_ (i := 0) (N := some 78) (v := ?_) (a' := ?_) #[true, false, true, false, false, false, false, false, false] rfl rfl (by kernel_rfl) (fun _ _ _ h => h) (Or.inl ⟨by rfl, ?_⟩) hHeld ?_ ?_
                            rotate_left
                            · rintro w' ⟨s0, s1, s2, s3, s4, s5, _⟩
                              go_simp
                              with_reducible rfl
                            rotate_left
                            · simp only [Act.put, List.setIfInBounds_toArray, List.set_cons_zero, List.set_cons_succ, i64_w, i32_w]
                              rfl
                            refine take_ (i := 5) (N := some 83) (v := ?_) (a' := ?_) #[true, false, true, false, false, true, false, false, false] rfl rfl (by kernel_rfl) (fun _ _ _ h => h) (Or.inl ⟨by rfl, ?_⟩) hHeld ?_ ?_
                            rotate_left
                            · rintro w' ⟨s0, s1, s2, s3, s4, s5, _⟩
                              go_simp
                              with_reducible rfl
                            rotate_left
                            · simp only [Act.put, List.setIfInBounds_toArray, List.set_cons_zero, List.set_cons_succ, i64_w, i32_w]
                              rfl
                            refine take_ (i := 3) (N := some 81) (v := ?_) (a' := ?_) #[true, false, true, true, false, true, false, false, false] rfl rfl (by kernel_rfl) (fun _ _ _ h => h) (Or.inl ⟨by rfl, ?_⟩) hHeld ?_ ?_
                            rotate_left
                            · rintro w' ⟨s0, s1, s2, s3, s4, s5, _⟩
                              go_simp
                              with_reducible rfl
                            rotate_left
                            · simp only [Act.put, List.setIfInBounds_toArray, List.set_cons_zero, List.set_cons_succ, i64_w, i32_w]
                              rfl
                            refine one_ (i := 1) (N := some 79) #[true, true, true, true, false, true, false, false, false] rfl rfl (by kernel_rfl) (by decide) (fun K hK => ?_)
                            refine goes_ Tryz.func104 (by kernel_rfl) rfl #[.agg (cells43 x A c).toArray, .int .i64 0] (by rfl) rfl rfl (by (try simp only [List.map_toArray, List.map_cons, List.map_nil]); first | done | rfl) ?_
                            refine (ih x _ A c 0 0 rfl (by omega) HX.out HT.out HZ0.out HL.out (Kd.C_below HC.out (below_drew1 (Below.refl W.heap.size W)))).mono ?_
                            rintro e1 w1 ⟨rfl, hb⟩
                            have HB1 := Aside0.mk (below_step (below_drew1 (Below.refl W.heap.size W)) hb)
                            refine ⟨_, rfl, ?_⟩
                            clear hb
                            have z10 := pw_cell_below HB1.out cc0
                            have z11 := pw_cell_below HB1.out cc1
                            have z12 := pw_cell_below HB1.out cc2
                            have z13 := pw_cell_below HB1.out cc3
                            have z14 := pw_cell_below HB1.out cc4
                            have z15 := pw_cell_below HB1.out cc5
                            refine hK.out _ _ ⟨z10, z11, z12, z13, z14, z15, HB1.out⟩ (fun hHeld => ?_)
                            clear hK K
                            refine norm_ (a' := ?_) ?_ ?_
                            rotate_left
                            · show Act.put _ (some 79) _ = _
                              simp only [Act.put, List.setIfInBounds_toArray, List.set_cons_zero, List.set_cons_succ, i64_w, i32_w]
                              rfl
                            clear z10 z11 z12 z13 z14 z15
                            refine pure_ (i := 4) (N := some 82) (v := ?_) (a' := ?_) #[true, true, true, true, true, true, false, false, false] rfl rfl (by kernel_rfl) (fun _ _ _ h => h) (Or.inl ⟨by rfl, ?_⟩) ?_ ?_
                            rotate_left
                            · intro w'
                              go_simp
                              with_reducible rfl
                            rotate_left
                            · simp only [Act.put, List.setIfInBounds_toArray, List.set_cons_zero, List.set_cons_succ, i64_w, i32_w]
                              rfl
                            refine one_ (i := 6) (N := some 84) #[true, true, true, true, true, true, true, false, false] rfl rfl (by kernel_rfl) (by decide) (fun K hK => ?_)
                            refine goes_ Tryz.func104 (by kernel_rfl) rfl #[.agg (cells43 x A c).toArray, .int .i64 1] (by rfl) rfl rfl (by (try simp only [List.map_toArray, List.map_cons, List.map_nil]); first | done | rfl) ?_
                            refine (ih x _ A c 1 1 rfl (by omega) HX.out HT.out HZ1.out HL.out (Kd.C_below HC.out HB1.out)).mono ?_
                            rintro e2 w2 ⟨rfl, hb⟩
                            have HB2 := Aside0.mk (below_step HB1.out hb)
                            refine ⟨_, rfl, ?_⟩
                            clear hb
                            have z20 := pw_cell_below HB2.out cc0
                            have z21 := pw_cell_below HB2.out cc1
                            have z22 := pw_cell_below HB2.out cc2
                            have z23 := pw_cell_below HB2.out cc3
                            have z24 := pw_cell_below HB2.out cc4
                            have z25 := pw_cell_below HB2.out cc5
                            refine hK.out _ _ ⟨z20, z21, z22, z23, z24, z25, HB2.out⟩ (fun hHeld => ?_)
                            clear hK K
                            refine norm_ (a' := ?_) ?_ ?_
                            rotate_left
                            · show Act.put _ (some 84) _ = _
                              simp only [Act.put, List.setIfInBounds_toArray, List.set_cons_zero, List.set_cons_succ, i64_w, i32_w]
                              rfl
                            clear z20 z21 z22 z23 z24 z25
                            refine pure_ (i := 7) (N := some 85) (v := ?_) (a' := ?_) #[true, true, true, true, true, true, true, true, false] rfl rfl (by kernel_rfl) (fun _ _ _ h => h) (Or.inl ⟨by rfl, ?_⟩) ?_ ?_
                            rotate_left
                            · intro w'
                              go_simp
                              with_reducible rfl
                            rotate_left
                            · simp only [Act.put, List.setIfInBounds_toArray, List.set_cons_zero, List.set_cons_succ, i64_w, i32_w]
                              rfl
                            refine pure_ (i := 8) (N := some 2) (v := ?_) (a' := ?_) #[true, true, true, true, true, true, true, true, true] rfl rfl (by kernel_rfl) (fun _ _ _ h => h) (Or.inl ⟨by rfl, ?_⟩) ?_ ?_
                            rotate_left
                            · intro w'
                              go_simp
                              with_reducible rfl
                            rotate_left
                            · simp only [Act.put, List.setIfInBounds_toArray, List.set_cons_zero, List.set_cons_succ, i64_w, i32_w]
                              rfl
                            refine done_ (by kernel_rfl) ?_
                            go_wp2
                            go_ret
                            exact ⟨by rw [HT0.out]; rfl, below_step HB.out HB2.out⟩
                        · have hm := bigB_no hB
                          have f00 : (x.f0.toList == [118, 97, 108]) = false := beq_eq_false_iff_ne.mpr c0
                          have f10 : (x.f0.toList == [99, 111, 108]) = false := beq_eq_false_iff_ne.mpr c1
                          have f20 : (x.f0.toList == [111, 114]) = false := beq_eq_false_iff_ne.mpr c2
                          have f30 : (x.f0.toList == [97, 110, 100]) = false := beq_eq_false_iff_ne.mpr c3
                          have f40 : (x.f0.toList == [110, 111, 116]) = false := beq_eq_false_iff_ne.mpr c4
                          have f50 : (x.f0.toList == [110, 101, 103]) = false := beq_eq_false_iff_ne.mpr c5
                          have f60 : (x.f0.toList == [105, 115, 110, 117, 108, 108]) = false := beq_eq_false_iff_ne.mpr c6
                          have f70 : (x.f0.toList == [99, 111, 117, 110, 116]) = false := beq_eq_false_iff_ne.mpr c7
                          have f80 : (x.f0.toList == [115, 117, 109]) = false := beq_eq_false_iff_ne.mpr c8
                          have f90 : (x.f0.toList == [109, 105, 110]) = false := beq_eq_false_iff_ne.mpr c9
                          have f100 : (x.f0.toList == [109, 97, 120]) = false := beq_eq_false_iff_ne.mpr c10
                          have e0 := txt_eq x
                          unfold txtB at e0
                          rw [if_neg c0, if_neg c1, if_neg c2, if_neg c3, if_neg c4, if_neg c5, if_neg c6, if_neg c7, if_neg c8, if_neg c9, if_neg c10, if_neg hB] at e0
                          clear c0 c1 c2 c3 c4 c5 c6 c7 c8 c9 c10
                          clear hB
                          have HT0 := Aside0.mk e0
                          clear e0
                          have g0 : (x.f0.toList == [61]) = false := beq_eq_false_iff_ne.mpr (fun h => hm (by rw [h]; decide))
                          have g1 : (x.f0.toList == [60, 62]) = false := beq_eq_false_iff_ne.mpr (fun h => hm (by rw [h]; decide))
                          have g2 : (x.f0.toList == [60]) = false := beq_eq_false_iff_ne.mpr (fun h => hm (by rw [h]; decide))
                          have g3 : (x.f0.toList == [60, 61]) = false := beq_eq_false_iff_ne.mpr (fun h => hm (by rw [h]; decide))
                          have g4 : (x.f0.toList == [62]) = false := beq_eq_false_iff_ne.mpr (fun h => hm (by rw [h]; decide))
                          have g5 : (x.f0.toList == [62, 61]) = false := beq_eq_false_iff_ne.mpr (fun h => hm (by rw [h]; decide))
                          have g6 : (x.f0.toList == [43]) = false := beq_eq_false_iff_ne.mpr (fun h => hm (by rw [h]; decide))
                          have g7 : (x.f0.toList == [45]) = false := beq_eq_false_iff_ne.mpr (fun h => hm (by rw [h]; decide))
                          have g8 : (x.f0.toList == [124, 124]) = false := beq_eq_false_iff_ne.mpr (fun h => hm (by rw [h]; decide))
                          have g9 : (x.f0.toList == [42]) = false := beq_eq_false_iff_ne.mpr (fun h => hm (by rw [h]; decide))
                          have g10 : (x.f0.toList == [47]) = false := beq_eq_false_iff_ne.mpr (fun h => hm (by rw [h]; decide))
                          have g11 : (x.f0.toList == [37]) = false := beq_eq_false_iff_ne.mpr (fun h => hm (by rw [h]; decide))
                          clear hm
                          go_wp2
                          go_ret
                          exact ⟨by rw [HT0.out]; rfl, HB.out⟩
theorem all_txt : ∀ n, InAt n ∧ TextAt n ∧ RInAt n ∧ RTextAt n := by
  intro n
  induction n with
  | zero =>
    refine ⟨fun x w A c b iv i _ _ h => ?_, fun x w A c h => ?_, fun x w A c iv i _ _ h => ?_, fun x w A c h => ?_⟩
    · have := fus_pos x.f3; omega
    · have := fu_eq x; omega
    · have := fus_pos x.f3; omega
    · have := fu_eq x; omega
  | succ n ih =>
    obtain ⟨h1, h2, h3, h4⟩ := ih
    exact ⟨in_step n h2, text_step n h1, rin_step n h4, rtext_step n h3⟩
theorem text_out {x : S43} {w : World} {A : Option Addr} {c : Nat} (hT : TG x) (hz : (txt x).size ≤ 1000000000) (hG : GV w) (hc : x.f3.length ≤ c) (hC : Kd.C k43 w A x.f3.length x.f3) : Calls Tryz.prog 41 #[.agg (cells43 x A c).toArray] w fun e w' => e = .returned (.string (txt x)) ∧ Below w.heap.size w w' :=
  (all_txt _).2.1 x w A c (Nat.le_refl _) hT hz hG hc hC
theorem rtext_out {x : S43} {w : World} {A : Option Addr} {c : Nat} (hT : TG x) (hz : (txt x).size ≤ 1000000000) (hc : x.f3.length ≤ c) (hC : Kd.C k43 w A x.f3.length x.f3) : Calls Tryz.prog 42 #[.agg (cells43 x A c).toArray] w fun e w' => e = .returned (.string (txt x)) ∧ Below w.heap.size w w' :=
  (all_txt _).2.2.2 x w A c (Nat.le_refl _) hT hz hc hC
end Go.Proofs.YtcgdncpioafbdaaGreatDoor.Q

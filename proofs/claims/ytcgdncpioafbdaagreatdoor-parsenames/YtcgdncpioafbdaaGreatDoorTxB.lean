/- Text of an expression: the program's. -/
import Derived.Test.YtcgdncpioafbdaaGreatDoorTxA
namespace Go.Proofs.YtcgdncpioafbdaaGreatDoor.Q
open Go Go.RowKit Go.Proofs.YtcgdncpioafbdaaGreatDoorW.PrintWords Go.Proofs.YtcgdncpioafbdaaGreatDoorW.PrintLast Go.Proofs.YtcgdncpioafbdaaGreatDoorW.PrintMore
theorem bigB_true {s : ByteArray} (h : bigB s = true) : Ps.binds s > 3 ∧ (s.toList == [105, 115]) = false := by
  unfold bigB at h
  simpa using h
theorem bigB_false {s : ByteArray} (h : ¬ bigB s = true) : ¬ Ps.binds s > 3 ∨ (s.toList == [105, 115]) = true := by
  unfold bigB at h
  by_cases h1 : Ps.binds s > 3
  · right
    simpa [h1] using h
  · exact .inl h1
theorem lit_s {v : S40} (h : (lit v).size ≤ 1000000000) (hs : v.f2.size ≤ 1000000000 ∨ v.f0 ≠ 0 ∧ v.f0 ≠ 1) : v.f2.size ≤ 1000000000 := by
  rcases hs with hs | ⟨h0, h1⟩
  · exact hs
  · have := lit_size h0 h1
    omega
set_option maxHeartbeats 2000000 in
set_option maxRecDepth 100000 in
theorem text_step (n : Nat) (ih : InAt n) : TextAt (n + 1) := by
  intro x w A c hx hT hz hG hc hC
  have HX := Aside0.mk (show fus x.f3 ≤ n by have := fu_eq x; omega)
  have HT := Aside0.mk ((TG_eq x).1 hT).2
  have HN := Aside0.mk ((TG_eq x).1 hT).1
  have HZ := Aside0.mk hz
  have HL := Aside0.mk hc
  clear hx hT hz hc
  unfold cells43
  go_enter Tryz.func41, Tryz.ntmps41
  go_upto_region 1 with (fail)
  have HB := Aside0.mk (below_alloc (Below.refl w.heap.size w) (.cells #[.string x.f0, .int .i64 x.f1.f0, .int .i64 x.f1.f1, .string x.f1.f2, .string x.f2, .slice A x.f3.length c] 43 (0, 0)))
  have HG1 := Aside0.mk (hG.below HB.out)
  have HC1 := Aside0.mk (Kd.C_below hC HB.out)
  have BK := Aside0.mk (new_blk (W := w) (.cells #[.string x.f0, .int .i64 x.f1.f0, .int .i64 x.f1.f1, .string x.f1.f2, .string x.f2, .slice A x.f3.length c] 43 (0, 0)) rfl)
  clear hG hC
  have HG := HG1
  have HC := HC1
  clear HG1 HC1
  generalize hb1 : w.heap.size = b at BK ⊢
  generalize hW : w.alloc (.cells #[.string x.f0, .int .i64 x.f1.f0, .int .i64 x.f1.f1, .string x.f1.f2, .string x.f2, .slice A x.f3.length c] 43 (0, 0)) = W at HB HG HC BK ⊢
  clear hW
  have cc0 : W.cell? ⟨b, 0, none⟩ = some (.string x.f0) := (blk_cell BK.out 0).trans rfl
  have cc1 : W.cell? ⟨b, 1, none⟩ = some (.int .i64 x.f1.f0) := (blk_cell BK.out 1).trans rfl
  have cc2 : W.cell? ⟨b, 2, none⟩ = some (.int .i64 x.f1.f1) := (blk_cell BK.out 2).trans rfl
  have cc3 : W.cell? ⟨b, 3, none⟩ = some (.string x.f1.f2) := (blk_cell BK.out 3).trans rfl
  have cc4 : W.cell? ⟨b, 4, none⟩ = some (.string x.f2) := (blk_cell BK.out 4).trans rfl
  have cc5 : W.cell? ⟨b, 5, none⟩ = some (.slice A x.f3.length c) := (blk_cell BK.out 5).trans rfl
  have hlt := blk_lt BK.out
  by_cases c0 : x.f0.toList = [118, 97, 108]
  · have f01 : (x.f0.toList == [118, 97, 108]) = true := beq_iff_eq.mpr c0
    have e0 := txt_eq x
    unfold txtB at e0
    rw [if_pos c0] at e0
    clear c0
    have HL1 := Aside0.mk (pLit (k := 40) (v := x.f1) (by omega) HN.out.1 HN.out.2.1 (by have h1 := HZ.out; rw [e0] at h1; exact h1))
    have HT0 := Aside0.mk e0
    clear e0
    go_wp2_with (first | (go_at_call 101; refine (parse_literal.calls 40 x.f1.f0 x.f1.f1 x.f1.f2 (lit x.f1) _ HL1.out HG.out).mono ?_; rintro e1 w1 ⟨rfl, hb⟩; have HB1 := Aside0.mk hb; clear hb))
    go_ret
    exact ⟨by rw [HT0.out]; rfl, below_step HB.out HB1.out⟩
  · skip
    by_cases c1 : x.f0.toList = [99, 111, 108]
    · have f00 : (x.f0.toList == [118, 97, 108]) = false := beq_eq_false_iff_ne.mpr c0
      have f11 : (x.f0.toList == [99, 111, 108]) = true := beq_iff_eq.mpr c1
      have e0 := txt_eq x
      unfold txtB at e0
      rw [if_neg c0, if_pos c1] at e0
      clear c0 c1
      have HT0 := Aside0.mk e0
      clear e0
      go_wp2
      go_ret
      exact ⟨by rw [HT0.out]; rfl, HB.out⟩
    · skip
      by_cases c2 : x.f0.toList = [111, 114]
      · have f00 : (x.f0.toList == [118, 97, 108]) = false := beq_eq_false_iff_ne.mpr c0
        have f10 : (x.f0.toList == [99, 111, 108]) = false := beq_eq_false_iff_ne.mpr c1
        have f21 : (x.f0.toList == [111, 114]) = true := beq_iff_eq.mpr c2
        have e0 := txt_eq x
        unfold txtB at e0
        rw [if_neg c0, if_neg c1, if_pos c2] at e0
        simp only [← inn_def] at e0
        clear c0 c1 c2
        have hz : (inn x.f3 0).size + 1 + x.f0.size + 1 + (inn x.f3 1).size ≤ 1000000000 := by
          have h1 := HZ.out
          rw [e0] at h1
          simp only [ByteArray.size_append, (show (⟨#[32]⟩ : ByteArray).size = 1 from rfl), (show (⟨#[110, 111, 116, 32]⟩ : ByteArray).size = 4 from rfl), (show (⟨#[45]⟩ : ByteArray).size = 1 from rfl), (show (⟨#[32, 105, 115, 32, 110, 117, 108, 108]⟩ : ByteArray).size = 8 from rfl)] at h1
          exact h1
        have HZ0 := Aside0.mk (show (inn x.f3 0).size ≤ 1000000000 by omega)
        have HZ1 := Aside0.mk (show (inn x.f3 1).size ≤ 1000000000 by omega)
        have t0 : (9223372036854775807 < (inn x.f3 0).size + 1) = False := eq_false (by omega)
        have t1 : (9223372036854775807 < (inn x.f3 0).size + 1 + x.f0.size) = False := eq_false (by omega)
        have t2 : (9223372036854775807 < (inn x.f3 0).size + 1 + x.f0.size + 1) = False := eq_false (by omega)
        have t3 : (9223372036854775807 < (inn x.f3 0).size + 1 + x.f0.size + 1 + (inn x.f3 1).size) = False := eq_false (by omega)
        have HT0 := Aside0.mk e0
        clear e0
        go_upto_region 9 with (fail)
        refine start_ (n := 11) (S := fun w' => w'.cell? ⟨b, 0, none⟩ = some (.string x.f0) ∧ Below W.heap.size W w') (ds := []) #[false, false, false, false, false, false, false, false, false, false, false] (by kernel_rfl) rfl rfl ⟨cc0, below_drew1 (Below.refl _ _)⟩ (fun hHeld => ?_)
        refine pure_ (i := 0) (N := some 19) (v := ?_) (a' := ?_) #[true, false, false, false, false, false, false, false, false, false, false] rfl rfl (by kernel_rfl) (fun _ _ _ h => h) (Or.inl ⟨by rfl, ?_⟩) ?_ ?_
        rotate_left
        · intro w'
          go_simp
          with_reducible rfl
        rotate_left
        · simp only [Act.put, List.setIfInBounds_toArray, List.set_cons_zero, List.set_cons_succ, i64_w, i32_w]
          rfl
        refine pure_ (i := 7) (N := some 26) (v := ?_) (a' := ?_) #[true, false, false, false, false, false, false, true, false, false, false] rfl rfl (by kernel_rfl) (fun _ _ _ h => h) (Or.inl ⟨by rfl, ?_⟩) ?_ ?_
        rotate_left
        · intro w'
          go_simp
          with_reducible rfl
        rotate_left
        · simp only [Act.put, List.setIfInBounds_toArray, List.set_cons_zero, List.set_cons_succ, i64_w, i32_w]
          rfl
        refine pure_ (i := 3) (N := some 22) (v := ?_) (a' := ?_) #[true, false, false, true, false, false, false, true, false, false, false] rfl rfl (by kernel_rfl) (fun _ _ _ h => h) (Or.inl ⟨by rfl, ?_⟩) ?_ ?_
        rotate_left
        · intro w'
          go_simp
          with_reducible rfl
        rotate_left
        · simp only [Act.put, List.setIfInBounds_toArray, List.set_cons_zero, List.set_cons_succ, i64_w, i32_w]
          rfl
        refine take_ (i := 4) (N := some 23) (v := ?_) (a' := ?_) #[true, false, false, true, true, false, false, true, false, false, false] rfl rfl (by kernel_rfl) (fun _ _ _ h => h) (Or.inl ⟨by rfl, ?_⟩) hHeld ?_ ?_
        rotate_left
        · rintro w' ⟨s0, _⟩
          go_simp
          with_reducible rfl
        rotate_left
        · simp only [Act.put, List.setIfInBounds_toArray, List.set_cons_zero, List.set_cons_succ, i64_w, i32_w]
          rfl
        refine one_ (i := 1) (N := some 20) #[true, true, false, true, true, false, false, true, false, false, false] rfl rfl (by kernel_rfl) (by decide) (fun K hK => ?_)
        refine goesC_ Tryz.func100 (by kernel_rfl) rfl #[.pointer (some ⟨b, 0, none⟩)] #[.int .i64 0, .pointer (some ⟨b, 0, none⟩)] (by rfl) rfl rfl (by rfl) (by simp only [List.map_toArray, List.map_cons, List.map_nil, List.append_toArray, List.cons_append, List.nil_append]; rfl) ?_
        refine (ih x _ A c b 0 0 rfl (by omega) HX.out HT.out HZ0.out (HG.out.below (below_drew1 (Below.refl W.heap.size W))) HL.out (Kd.C_below HC.out (below_drew1 (Below.refl W.heap.size W))) (((below_drew1 (Below.refl W.heap.size W))).block b hlt ▸ BK.out)).mono ?_
        rintro e1 w1 ⟨rfl, hb⟩
        have HB1 := Aside0.mk (below_step (below_drew1 (Below.refl W.heap.size W)) hb)
        refine ⟨_, rfl, ?_⟩
        clear hb
        have z1 := pw_cell_below HB1.out cc0
        refine hK.out _ _ ⟨z1, HB1.out⟩ (fun hHeld => ?_)
        clear hK K z1
        refine norm_ (a' := ?_) ?_ ?_
        rotate_left
        · show Act.put _ (some 20) _ = _
          simp only [Act.put, List.setIfInBounds_toArray, List.set_cons_zero, List.set_cons_succ, i64_w, i32_w]
          rfl
        refine pure_ (i := 2) (N := some 21) (v := ?_) (a' := ?_) #[true, true, true, true, true, false, false, true, false, false, false] rfl rfl (by kernel_rfl) (fun _ _ _ h => h) (Or.inl ⟨by rfl, ?_⟩) ?_ ?_
        rotate_left
        · intro w'
          go_simp
          with_reducible rfl
        rotate_left
        · simp only [Act.put, List.setIfInBounds_toArray, List.set_cons_zero, List.set_cons_succ, i64_w, i32_w]
          rfl
        refine pure_ (i := 5) (N := some 24) (v := ?_) (a' := ?_) #[true, true, true, true, true, true, false, true, false, false, false] rfl rfl (by kernel_rfl) (fun _ _ _ h => h) (Or.inl ⟨by rfl, ?_⟩) ?_ ?_
        rotate_left
        · intro w'
          go_simp
          with_reducible rfl
        rotate_left
        · simp only [Act.put, List.setIfInBounds_toArray, List.set_cons_zero, List.set_cons_succ, i64_w, i32_w]
          rfl
        refine pure_ (i := 6) (N := some 25) (v := ?_) (a' := ?_) #[true, true, true, true, true, true, true, true, false, false, false] rfl rfl (by kernel_rfl) (fun _ _ _ h => h) (Or.inl ⟨by rfl, ?_⟩) ?_ ?_
        rotate_left
        · intro w'
          go_simp
          with_reducible rfl
        rotate_left
        · simp only [Act.put, List.setIfInBounds_toArray, List.set_cons_zero, List.set_cons_succ, i64_w, i32_w]
          rfl
        refine one_ (i := 8) (N := some 27) #[true, true, true, true, true, true, true, true, true, false, false] rfl rfl (by kernel_rfl) (by decide) (fun K hK => ?_)
        refine goesC_ Tryz.func100 (by kernel_rfl) rfl #[.pointer (some ⟨b, 0, none⟩)] #[.int .i64 1, .pointer (some ⟨b, 0, none⟩)] (by rfl) rfl rfl (by rfl) (by simp only [List.map_toArray, List.map_cons, List.map_nil, List.append_toArray, List.cons_append, List.nil_append]; rfl) ?_
        refine (ih x _ A c b 1 1 rfl (by omega) HX.out HT.out HZ1.out (HG.out.below HB1.out) HL.out (Kd.C_below HC.out HB1.out) ((HB1.out).block b hlt ▸ BK.out)).mono ?_
        rintro e2 w2 ⟨rfl, hb⟩
        have HB2 := Aside0.mk (below_step HB1.out hb)
        refine ⟨_, rfl, ?_⟩
        clear hb
        have z2 := pw_cell_below HB2.out cc0
        refine hK.out _ _ ⟨z2, HB2.out⟩ (fun hHeld => ?_)
        clear hK K z2
        refine norm_ (a' := ?_) ?_ ?_
        rotate_left
        · show Act.put _ (some 27) _ = _
          simp only [Act.put, List.setIfInBounds_toArray, List.set_cons_zero, List.set_cons_succ, i64_w, i32_w]
          rfl
        refine pure_ (i := 9) (N := some 28) (v := ?_) (a' := ?_) #[true, true, true, true, true, true, true, true, true, true, false] rfl rfl (by kernel_rfl) (fun _ _ _ h => h) (Or.inl ⟨by rfl, ?_⟩) ?_ ?_
        rotate_left
        · intro w'
          go_simp
          with_reducible rfl
        rotate_left
        · simp only [Act.put, List.setIfInBounds_toArray, List.set_cons_zero, List.set_cons_succ, i64_w, i32_w]
          rfl
        refine pure_ (i := 10) (N := some 2) (v := ?_) (a' := ?_) #[true, true, true, true, true, true, true, true, true, true, true] rfl rfl (by kernel_rfl) (fun _ _ _ h => h) (Or.inl ⟨by rfl, ?_⟩) ?_ ?_
        rotate_left
        · intro w'
          go_simp
          with_reducible rfl
        rotate_left
        · simp only [Act.put, List.setIfInBounds_toArray, List.set_cons_zero, List.set_cons_succ, i64_w, i32_w]
          rfl
        refine done_ (by kernel_rfl) ?_
        go_wp2
        go_ret
        exact ⟨by rw [HT0.out]; rfl, below_step HB.out HB2.out⟩
      · skip
        by_cases c3 : x.f0.toList = [97, 110, 100]
        · have f00 : (x.f0.toList == [118, 97, 108]) = false := beq_eq_false_iff_ne.mpr c0
          have f10 : (x.f0.toList == [99, 111, 108]) = false := beq_eq_false_iff_ne.mpr c1
          have f20 : (x.f0.toList == [111, 114]) = false := beq_eq_false_iff_ne.mpr c2
          have f31 : (x.f0.toList == [97, 110, 100]) = true := beq_iff_eq.mpr c3
          have e0 := txt_eq x
          unfold txtB at e0
          rw [if_neg c0, if_neg c1, if_neg c2, if_pos c3] at e0
          simp only [← inn_def] at e0
          clear c0 c1 c2 c3
          have hz : (inn x.f3 0).size + 1 + x.f0.size + 1 + (inn x.f3 1).size ≤ 1000000000 := by
            have h1 := HZ.out
            rw [e0] at h1
            simp only [ByteArray.size_append, (show (⟨#[32]⟩ : ByteArray).size = 1 from rfl), (show (⟨#[110, 111, 116, 32]⟩ : ByteArray).size = 4 from rfl), (show (⟨#[45]⟩ : ByteArray).size = 1 from rfl), (show (⟨#[32, 105, 115, 32, 110, 117, 108, 108]⟩ : ByteArray).size = 8 from rfl)] at h1
            exact h1
          have HZ0 := Aside0.mk (show (inn x.f3 0).size ≤ 1000000000 by omega)
          have HZ1 := Aside0.mk (show (inn x.f3 1).size ≤ 1000000000 by omega)
          have t0 : (9223372036854775807 < (inn x.f3 0).size + 1) = False := eq_false (by omega)
          have t1 : (9223372036854775807 < (inn x.f3 0).size + 1 + x.f0.size) = False := eq_false (by omega)
          have t2 : (9223372036854775807 < (inn x.f3 0).size + 1 + x.f0.size + 1) = False := eq_false (by omega)
          have t3 : (9223372036854775807 < (inn x.f3 0).size + 1 + x.f0.size + 1 + (inn x.f3 1).size) = False := eq_false (by omega)
          have HT0 := Aside0.mk e0
          clear e0
          go_upto_region 9 with (fail)
          refine start_ (n := 11) (S := fun w' => w'.cell? ⟨b, 0, none⟩ = some (.string x.f0) ∧ Below W.heap.size W w') (ds := []) #[false, false, false, false, false, false, false, false, false, false, false] (by kernel_rfl) rfl rfl ⟨cc0, below_drew1 (Below.refl _ _)⟩ (fun hHeld => ?_)
          refine pure_ (i := 0) (N := some 19) (v := ?_) (a' := ?_) #[true, false, false, false, false, false, false, false, false, false, false] rfl rfl (by kernel_rfl) (fun _ _ _ h => h) (Or.inl ⟨by rfl, ?_⟩) ?_ ?_
          rotate_left
          · intro w'
            go_simp
            with_reducible rfl
          rotate_left
          · simp only [Act.put, List.setIfInBounds_toArray, List.set_cons_zero, List.set_cons_succ, i64_w, i32_w]
            rfl
          refine pure_ (i := 7) (N := some 26) (v := ?_) (a' := ?_) #[true, false, false, false, false, false, false, true, false, false, false] rfl rfl (by kernel_rfl) (fun _ _ _ h => h) (Or.inl ⟨by rfl, ?_⟩) ?_ ?_
          rotate_left
          · intro w'
            go_simp
            with_reducible rfl
          rotate_left
          · simp only [Act.put, List.setIfInBounds_toArray, List.set_cons_zero, List.set_cons_succ, i64_w, i32_w]
            rfl
          refine pure_ (i := 3) (N := some 22) (v := ?_) (a' := ?_) #[true, false, false, true, false, false, false, true, false, false, false] rfl rfl (by kernel_rfl) (fun _ _ _ h => h) (Or.inl ⟨by rfl, ?_⟩) ?_ ?_
          rotate_left
          · intro w'
            go_simp
            with_reducible rfl
          rotate_left
          · simp only [Act.put, List.setIfInBounds_toArray, List.set_cons_zero, List.set_cons_succ, i64_w, i32_w]
            rfl
          refine take_ (i := 4) (N := some 23) (v := ?_) (a' := ?_) #[true, false, false, true, true, false, false, true, false, false, false] rfl rfl (by kernel_rfl) (fun _ _ _ h => h) (Or.inl ⟨by rfl, ?_⟩) hHeld ?_ ?_
          rotate_left
          · rintro w' ⟨s0, _⟩
            go_simp
            with_reducible rfl
          rotate_left
          · simp only [Act.put, List.setIfInBounds_toArray, List.set_cons_zero, List.set_cons_succ, i64_w, i32_w]
            rfl
          refine one_ (i := 1) (N := some 20) #[true, true, false, true, true, false, false, true, false, false, false] rfl rfl (by kernel_rfl) (by decide) (fun K hK => ?_)
          refine goesC_ Tryz.func100 (by kernel_rfl) rfl #[.pointer (some ⟨b, 0, none⟩)] #[.int .i64 0, .pointer (some ⟨b, 0, none⟩)] (by rfl) rfl rfl (by rfl) (by simp only [List.map_toArray, List.map_cons, List.map_nil, List.append_toArray, List.cons_append, List.nil_append]; rfl) ?_
          refine (ih x _ A c b 0 0 rfl (by omega) HX.out HT.out HZ0.out (HG.out.below (below_drew1 (Below.refl W.heap.size W))) HL.out (Kd.C_below HC.out (below_drew1 (Below.refl W.heap.size W))) (((below_drew1 (Below.refl W.heap.size W))).block b hlt ▸ BK.out)).mono ?_
          rintro e1 w1 ⟨rfl, hb⟩
          have HB1 := Aside0.mk (below_step (below_drew1 (Below.refl W.heap.size W)) hb)
          refine ⟨_, rfl, ?_⟩
          clear hb
          have z1 := pw_cell_below HB1.out cc0
          refine hK.out _ _ ⟨z1, HB1.out⟩ (fun hHeld => ?_)
          clear hK K z1
          refine norm_ (a' := ?_) ?_ ?_
          rotate_left
          · show Act.put _ (some 20) _ = _
            simp only [Act.put, List.setIfInBounds_toArray, List.set_cons_zero, List.set_cons_succ, i64_w, i32_w]
            rfl
          refine pure_ (i := 2) (N := some 21) (v := ?_) (a' := ?_) #[true, true, true, true, true, false, false, true, false, false, false] rfl rfl (by kernel_rfl) (fun _ _ _ h => h) (Or.inl ⟨by rfl, ?_⟩) ?_ ?_
          rotate_left
          · intro w'
            go_simp
            with_reducible rfl
          rotate_left
          · simp only [Act.put, List.setIfInBounds_toArray, List.set_cons_zero, List.set_cons_succ, i64_w, i32_w]
            rfl
          refine pure_ (i := 5) (N := some 24) (v := ?_) (a' := ?_) #[true, true, true, true, true, true, false, true, false, false, false] rfl rfl (by kernel_rfl) (fun _ _ _ h => h) (Or.inl ⟨by rfl, ?_⟩) ?_ ?_
          rotate_left
          · intro w'
            go_simp
            with_reducible rfl
          rotate_left
          · simp only [Act.put, List.setIfInBounds_toArray, List.set_cons_zero, List.set_cons_succ, i64_w, i32_w]
            rfl
          refine pure_ (i := 6) (N := some 25) (v := ?_) (a' := ?_) #[true, true, true, true, true, true, true, true, false, false, false] rfl rfl (by kernel_rfl) (fun _ _ _ h => h) (Or.inl ⟨by rfl, ?_⟩) ?_ ?_
          rotate_left
          · intro w'
            go_simp
            with_reducible rfl
          rotate_left
          · simp only [Act.put, List.setIfInBounds_toArray, List.set_cons_zero, List.set_cons_succ, i64_w, i32_w]
            rfl
          refine one_ (i := 8) (N := some 27) #[true, true, true, true, true, true, true, true, true, false, false] rfl rfl (by kernel_rfl) (by decide) (fun K hK => ?_)
          refine goesC_ Tryz.func100 (by kernel_rfl) rfl #[.pointer (some ⟨b, 0, none⟩)] #[.int .i64 1, .pointer (some ⟨b, 0, none⟩)] (by rfl) rfl rfl (by rfl) (by simp only [List.map_toArray, List.map_cons, List.map_nil, List.append_toArray, List.cons_append, List.nil_append]; rfl) ?_
          refine (ih x _ A c b 1 1 rfl (by omega) HX.out HT.out HZ1.out (HG.out.below HB1.out) HL.out (Kd.C_below HC.out HB1.out) ((HB1.out).block b hlt ▸ BK.out)).mono ?_
          rintro e2 w2 ⟨rfl, hb⟩
          have HB2 := Aside0.mk (below_step HB1.out hb)
          refine ⟨_, rfl, ?_⟩
          clear hb
          have z2 := pw_cell_below HB2.out cc0
          refine hK.out _ _ ⟨z2, HB2.out⟩ (fun hHeld => ?_)
          clear hK K z2
          refine norm_ (a' := ?_) ?_ ?_
          rotate_left
          · show Act.put _ (some 27) _ = _
            simp only [Act.put, List.setIfInBounds_toArray, List.set_cons_zero, List.set_cons_succ, i64_w, i32_w]
            rfl
          refine pure_ (i := 9) (N := some 28) (v := ?_) (a' := ?_) #[true, true, true, true, true, true, true, true, true, true, false] rfl rfl (by kernel_rfl) (fun _ _ _ h => h) (Or.inl ⟨by rfl, ?_⟩) ?_ ?_
          rotate_left
          · intro w'
            go_simp
            with_reducible rfl
          rotate_left
          · simp only [Act.put, List.setIfInBounds_toArray, List.set_cons_zero, List.set_cons_succ, i64_w, i32_w]
            rfl
          refine pure_ (i := 10) (N := some 2) (v := ?_) (a' := ?_) #[true, true, true, true, true, true, true, true, true, true, true] rfl rfl (by kernel_rfl) (fun _ _ _ h => h) (Or.inl ⟨by rfl, ?_⟩) ?_ ?_
          rotate_left
          · intro w'
            go_simp
            with_reducible rfl
          rotate_left
          · simp only [Act.put, List.setIfInBounds_toArray, List.set_cons_zero, List.set_cons_succ, i64_w, i32_w]
            rfl
          refine done_ (by kernel_rfl) ?_
          go_wp2
          go_ret
          exact ⟨by rw [HT0.out]; rfl, below_step HB.out HB2.out⟩
        · skip
          by_cases c4 : x.f0.toList = [110, 111, 116]
          · have f00 : (x.f0.toList == [118, 97, 108]) = false := beq_eq_false_iff_ne.mpr c0
            have f10 : (x.f0.toList == [99, 111, 108]) = false := beq_eq_false_iff_ne.mpr c1
            have f20 : (x.f0.toList == [111, 114]) = false := beq_eq_false_iff_ne.mpr c2
            have f30 : (x.f0.toList == [97, 110, 100]) = false := beq_eq_false_iff_ne.mpr c3
            have f41 : (x.f0.toList == [110, 111, 116]) = true := beq_iff_eq.mpr c4
            have e0 := txt_eq x
            unfold txtB at e0
            rw [if_neg c0, if_neg c1, if_neg c2, if_neg c3, if_pos c4] at e0
            simp only [← inn_def] at e0
            clear c0 c1 c2 c3 c4
            have hz : 4 + (inn x.f3 0).size ≤ 1000000000 := by
              have h1 := HZ.out
              rw [e0] at h1
              simp only [ByteArray.size_append, (show (⟨#[32]⟩ : ByteArray).size = 1 from rfl), (show (⟨#[110, 111, 116, 32]⟩ : ByteArray).size = 4 from rfl), (show (⟨#[45]⟩ : ByteArray).size = 1 from rfl), (show (⟨#[32, 105, 115, 32, 110, 117, 108, 108]⟩ : ByteArray).size = 8 from rfl)] at h1
              exact h1
            have HZ0 := Aside0.mk (show (inn x.f3 0).size ≤ 1000000000 by omega)
            have t0 : (9223372036854775807 < 4 + (inn x.f3 0).size) = False := eq_false (by omega)
            have HT0 := Aside0.mk e0
            clear e0
            go_wp2_with (first | (go_at_call 100; refine (ih x _ A c b 0 0 rfl (by omega) HX.out HT.out HZ0.out HG.out HL.out HC.out BK.out).mono ?_; rintro e1 w1 ⟨rfl, hb⟩; have HB1 := Aside0.mk hb; clear hb))
            go_ret
            exact ⟨by rw [HT0.out]; rfl, below_step HB.out HB1.out⟩
          · skip
            by_cases c5 : x.f0.toList = [110, 101, 103]
            · have f00 : (x.f0.toList == [118, 97, 108]) = false := beq_eq_false_iff_ne.mpr c0
              have f10 : (x.f0.toList == [99, 111, 108]) = false := beq_eq_false_iff_ne.mpr c1
              have f20 : (x.f0.toList == [111, 114]) = false := beq_eq_false_iff_ne.mpr c2
              have f30 : (x.f0.toList == [97, 110, 100]) = false := beq_eq_false_iff_ne.mpr c3
              have f40 : (x.f0.toList == [110, 111, 116]) = false := beq_eq_false_iff_ne.mpr c4
              have f51 : (x.f0.toList == [110, 101, 103]) = true := beq_iff_eq.mpr c5
              have e0 := txt_eq x
              unfold txtB at e0
              rw [if_neg c0, if_neg c1, if_neg c2, if_neg c3, if_neg c4, if_pos c5] at e0
              simp only [← inn_def] at e0
              clear c0 c1 c2 c3 c4 c5
              have hz : 1 + (inn x.f3 0).size ≤ 1000000000 := by
                have h1 := HZ.out
                rw [e0] at h1
                simp only [ByteArray.size_append, (show (⟨#[32]⟩ : ByteArray).size = 1 from rfl), (show (⟨#[110, 111, 116, 32]⟩ : ByteArray).size = 4 from rfl), (show (⟨#[45]⟩ : ByteArray).size = 1 from rfl), (show (⟨#[32, 105, 115, 32, 110, 117, 108, 108]⟩ : ByteArray).size = 8 from rfl)] at h1
                exact h1
              have HZ0 := Aside0.mk (show (inn x.f3 0).size ≤ 1000000000 by omega)
              have t0 : (9223372036854775807 < 1 + (inn x.f3 0).size) = False := eq_false (by omega)
              have HT0 := Aside0.mk e0
              clear e0
              go_wp2_with (first | (go_at_call 100; refine (ih x _ A c b 0 0 rfl (by omega) HX.out HT.out HZ0.out HG.out HL.out HC.out BK.out).mono ?_; rintro e1 w1 ⟨rfl, hb⟩; have HB1 := Aside0.mk hb; clear hb))
              go_ret
              exact ⟨by rw [HT0.out]; rfl, below_step HB.out HB1.out⟩
            · skip
              by_cases c6 : x.f0.toList = [105, 115, 110, 117, 108, 108]
              · have f00 : (x.f0.toList == [118, 97, 108]) = false := beq_eq_false_iff_ne.mpr c0
                have f10 : (x.f0.toList == [99, 111, 108]) = false := beq_eq_false_iff_ne.mpr c1
                have f20 : (x.f0.toList == [111, 114]) = false := beq_eq_false_iff_ne.mpr c2
                have f30 : (x.f0.toList == [97, 110, 100]) = false := beq_eq_false_iff_ne.mpr c3
                have f40 : (x.f0.toList == [110, 111, 116]) = false := beq_eq_false_iff_ne.mpr c4
                have f50 : (x.f0.toList == [110, 101, 103]) = false := beq_eq_false_iff_ne.mpr c5
                have f61 : (x.f0.toList == [105, 115, 110, 117, 108, 108]) = true := beq_iff_eq.mpr c6
                have e0 := txt_eq x
                unfold txtB at e0
                rw [if_neg c0, if_neg c1, if_neg c2, if_neg c3, if_neg c4, if_neg c5, if_pos c6] at e0
                simp only [← inn_def] at e0
                clear c0 c1 c2 c3 c4 c5 c6
                have hz : (inn x.f3 0).size + 8 ≤ 1000000000 := by
                  have h1 := HZ.out
                  rw [e0] at h1
                  simp only [ByteArray.size_append, (show (⟨#[32]⟩ : ByteArray).size = 1 from rfl), (show (⟨#[110, 111, 116, 32]⟩ : ByteArray).size = 4 from rfl), (show (⟨#[45]⟩ : ByteArray).size = 1 from rfl), (show (⟨#[32, 105, 115, 32, 110, 117, 108, 108]⟩ : ByteArray).size = 8 from rfl)] at h1
                  exact h1
                have HZ0 := Aside0.mk (show (inn x.f3 0).size ≤ 1000000000 by omega)
                have t0 : (9223372036854775807 < (inn x.f3 0).size + 8) = False := eq_false (by omega)
                have HT0 := Aside0.mk e0
                clear e0
                go_wp2_with (first | (go_at_call 100; refine (ih x _ A c b 0 0 rfl (by omega) HX.out HT.out HZ0.out HG.out HL.out HC.out BK.out).mono ?_; rintro e1 w1 ⟨rfl, hb⟩; have HB1 := Aside0.mk hb; clear hb))
                go_ret
                exact ⟨by rw [HT0.out]; rfl, below_step HB.out HB1.out⟩
              · skip
                by_cases c7 : x.f0.toList = [99, 111, 117, 110, 116]
                · have f00 : (x.f0.toList == [118, 97, 108]) = false := beq_eq_false_iff_ne.mpr c0
                  have f10 : (x.f0.toList == [99, 111, 108]) = false := beq_eq_false_iff_ne.mpr c1
                  have f20 : (x.f0.toList == [111, 114]) = false := beq_eq_false_iff_ne.mpr c2
                  have f30 : (x.f0.toList == [97, 110, 100]) = false := beq_eq_false_iff_ne.mpr c3
                  have f40 : (x.f0.toList == [110, 111, 116]) = false := beq_eq_false_iff_ne.mpr c4
                  have f50 : (x.f0.toList == [110, 101, 103]) = false := beq_eq_false_iff_ne.mpr c5
                  have f60 : (x.f0.toList == [105, 115, 110, 117, 108, 108]) = false := beq_eq_false_iff_ne.mpr c6
                  have f71 : (x.f0.toList == [99, 111, 117, 110, 116]) = true := beq_iff_eq.mpr c7
                  have e0 := txt_eq x
                  unfold txtB at e0
                  rw [if_neg c0, if_neg c1, if_neg c2, if_neg c3, if_neg c4, if_neg c5, if_neg c6, if_pos c7] at e0
                  clear c0 c1 c2 c3 c4 c5 c6 c7
                  have HT0 := Aside0.mk e0
                  clear e0
                  go_wp2
                  go_ret
                  exact ⟨by rw [HT0.out]; rfl, HB.out⟩
                · skip
                  by_cases c8 : x.f0.toList = [115, 117, 109]
                  · have f00 : (x.f0.toList == [118, 97, 108]) = false := beq_eq_false_iff_ne.mpr c0
                    have f10 : (x.f0.toList == [99, 111, 108]) = false := beq_eq_false_iff_ne.mpr c1
                    have f20 : (x.f0.toList == [111, 114]) = false := beq_eq_false_iff_ne.mpr c2
                    have f30 : (x.f0.toList == [97, 110, 100]) = false := beq_eq_false_iff_ne.mpr c3
                    have f40 : (x.f0.toList == [110, 111, 116]) = false := beq_eq_false_iff_ne.mpr c4
                    have f50 : (x.f0.toList == [110, 101, 103]) = false := beq_eq_false_iff_ne.mpr c5
                    have f60 : (x.f0.toList == [105, 115, 110, 117, 108, 108]) = false := beq_eq_false_iff_ne.mpr c6
                    have f70 : (x.f0.toList == [99, 111, 117, 110, 116]) = false := beq_eq_false_iff_ne.mpr c7
                    have f81 : (x.f0.toList == [115, 117, 109]) = true := beq_iff_eq.mpr c8
                    have e0 := txt_eq x
                    unfold txtB at e0
                    rw [if_neg c0, if_neg c1, if_neg c2, if_neg c3, if_neg c4, if_neg c5, if_neg c6, if_neg c7, if_pos c8] at e0
                    simp only [← inn_def] at e0
                    clear c0 c1 c2 c3 c4 c5 c6 c7 c8
                    have hz : x.f0.size + (inn x.f3 0).size ≤ 1000000000 := by
                      have h1 := HZ.out
                      rw [e0] at h1
                      simp only [ByteArray.size_append, (show (⟨#[32]⟩ : ByteArray).size = 1 from rfl), (show (⟨#[110, 111, 116, 32]⟩ : ByteArray).size = 4 from rfl), (show (⟨#[45]⟩ : ByteArray).size = 1 from rfl), (show (⟨#[32, 105, 115, 32, 110, 117, 108, 108]⟩ : ByteArray).size = 8 from rfl)] at h1
                      exact h1
                    have HZ0 := Aside0.mk (show (inn x.f3 0).size ≤ 1000000000 by omega)
                    have t0 : (9223372036854775807 < x.f0.size + (inn x.f3 0).size) = False := eq_false (by omega)
                    have HT0 := Aside0.mk e0
                    clear e0
                    go_upto_region 21 with (fail)
                    refine start_ (n := 6) (S := fun w' => w'.cell? ⟨b, 0, none⟩ = some (.string x.f0) ∧ Below W.heap.size W w') (ds := []) #[false, false, false, false, false, false] (by kernel_rfl) rfl rfl ⟨cc0, below_drew1 (Below.refl _ _)⟩ (fun hHeld => ?_)
                    refine pure_ (i := 0) (N := some 50) (v := ?_) (a' := ?_) #[true, false, false, false, false, false] rfl rfl (by kernel_rfl) (fun _ _ _ h => h) (Or.inl ⟨by rfl, ?_⟩) ?_ ?_
                    rotate_left
                    · intro w'
                      go_simp
                      with_reducible rfl
                    rotate_left
                    · simp only [Act.put, List.setIfInBounds_toArray, List.set_cons_zero, List.set_cons_succ, i64_w, i32_w]
                      rfl
                    refine pure_ (i := 2) (N := some 52) (v := ?_) (a' := ?_) #[true, false, true, false, false, false] rfl rfl (by kernel_rfl) (fun _ _ _ h => h) (Or.inl ⟨by rfl, ?_⟩) ?_ ?_
                    rotate_left
                    · intro w'
                      go_simp
                      with_reducible rfl
                    rotate_left
                    · simp only [Act.put, List.setIfInBounds_toArray, List.set_cons_zero, List.set_cons_succ, i64_w, i32_w]
                      rfl
                    refine take_ (i := 1) (N := some 51) (v := ?_) (a' := ?_) #[true, true, true, false, false, false] rfl rfl (by kernel_rfl) (fun _ _ _ h => h) (Or.inl ⟨by rfl, ?_⟩) hHeld ?_ ?_
                    rotate_left
                    · rintro w' ⟨s0, _⟩
                      go_simp
                      with_reducible rfl
                    rotate_left
                    · simp only [Act.put, List.setIfInBounds_toArray, List.set_cons_zero, List.set_cons_succ, i64_w, i32_w]
                      rfl
                    refine one_ (i := 3) (N := some 53) #[true, true, true, true, false, false] rfl rfl (by kernel_rfl) (by decide) (fun K hK => ?_)
                    refine goesC_ Tryz.func100 (by kernel_rfl) rfl #[.pointer (some ⟨b, 0, none⟩)] #[.int .i64 0, .pointer (some ⟨b, 0, none⟩)] (by rfl) rfl rfl (by rfl) (by simp only [List.map_toArray, List.map_cons, List.map_nil, List.append_toArray, List.cons_append, List.nil_append]; rfl) ?_
                    refine (ih x _ A c b 0 0 rfl (by omega) HX.out HT.out HZ0.out (HG.out.below (below_drew1 (Below.refl W.heap.size W))) HL.out (Kd.C_below HC.out (below_drew1 (Below.refl W.heap.size W))) (((below_drew1 (Below.refl W.heap.size W))).block b hlt ▸ BK.out)).mono ?_
                    rintro e1 w1 ⟨rfl, hb⟩
                    have HB1 := Aside0.mk (below_step (below_drew1 (Below.refl W.heap.size W)) hb)
                    refine ⟨_, rfl, ?_⟩
                    clear hb
                    have z1 := pw_cell_below HB1.out cc0
                    refine hK.out _ _ ⟨z1, HB1.out⟩ (fun hHeld => ?_)
                    clear hK K z1
                    refine norm_ (a' := ?_) ?_ ?_
                    rotate_left
                    · show Act.put _ (some 53) _ = _
                      simp only [Act.put, List.setIfInBounds_toArray, List.set_cons_zero, List.set_cons_succ, i64_w, i32_w]
                      rfl
                    refine pure_ (i := 4) (N := some 54) (v := ?_) (a' := ?_) #[true, true, true, true, true, false] rfl rfl (by kernel_rfl) (fun _ _ _ h => h) (Or.inl ⟨by rfl, ?_⟩) ?_ ?_
                    rotate_left
                    · intro w'
                      go_simp
                      with_reducible rfl
                    rotate_left
                    · simp only [Act.put, List.setIfInBounds_toArray, List.set_cons_zero, List.set_cons_succ, i64_w, i32_w]
                      rfl
                    refine pure_ (i := 5) (N := some 2) (v := ?_) (a' := ?_) #[true, true, true, true, true, true] rfl rfl (by kernel_rfl) (fun _ _ _ h => h) (Or.inl ⟨by rfl, ?_⟩) ?_ ?_
                    rotate_left
                    · intro w'
                      go_simp
                      with_reducible rfl
                    rotate_left
                    · simp only [Act.put, List.setIfInBounds_toArray, List.set_cons_zero, List.set_cons_succ, i64_w, i32_w]
                      rfl
                    refine done_ (by kernel_rfl) ?_
                    go_wp2
                    go_ret
                    exact ⟨by rw [HT0.out]; rfl, below_step HB.out HB1.out⟩
                  · skip
                    by_cases c9 : x.f0.toList = [109, 105, 110]
                    · have f00 : (x.f0.toList == [118, 97, 108]) = false := beq_eq_false_iff_ne.mpr c0
                      have f10 : (x.f0.toList == [99, 111, 108]) = false := beq_eq_false_iff_ne.mpr c1
                      have f20 : (x.f0.toList == [111, 114]) = false := beq_eq_false_iff_ne.mpr c2
                      have f30 : (x.f0.toList == [97, 110, 100]) = false := beq_eq_false_iff_ne.mpr c3
                      have f40 : (x.f0.toList == [110, 111, 116]) = false := beq_eq_false_iff_ne.mpr c4
                      have f50 : (x.f0.toList == [110, 101, 103]) = false := beq_eq_false_iff_ne.mpr c5
                      have f60 : (x.f0.toList == [105, 115, 110, 117, 108, 108]) = false := beq_eq_false_iff_ne.mpr c6
                      have f70 : (x.f0.toList == [99, 111, 117, 110, 116]) = false := beq_eq_false_iff_ne.mpr c7
                      have f80 : (x.f0.toList == [115, 117, 109]) = false := beq_eq_false_iff_ne.mpr c8
                      have f91 : (x.f0.toList == [109, 105, 110]) = true := beq_iff_eq.mpr c9
                      have e0 := txt_eq x
                      unfold txtB at e0
                      rw [if_neg c0, if_neg c1, if_neg c2, if_neg c3, if_neg c4, if_neg c5, if_neg c6, if_neg c7, if_neg c8, if_pos c9] at e0
                      simp only [← inn_def] at e0
                      clear c0 c1 c2 c3 c4 c5 c6 c7 c8 c9
                      have hz : x.f0.size + (inn x.f3 0).size ≤ 1000000000 := by
                        have h1 := HZ.out
                        rw [e0] at h1
                        simp only [ByteArray.size_append, (show (⟨#[32]⟩ : ByteArray).size = 1 from rfl), (show (⟨#[110, 111, 116, 32]⟩ : ByteArray).size = 4 from rfl), (show (⟨#[45]⟩ : ByteArray).size = 1 from rfl), (show (⟨#[32, 105, 115, 32, 110, 117, 108, 108]⟩ : ByteArray).size = 8 from rfl)] at h1
                        exact h1
                      have HZ0 := Aside0.mk (show (inn x.f3 0).size ≤ 1000000000 by omega)
                      have t0 : (9223372036854775807 < x.f0.size + (inn x.f3 0).size) = False := eq_false (by omega)
                      have HT0 := Aside0.mk e0
                      clear e0
                      go_upto_region 21 with (fail)
                      refine start_ (n := 6) (S := fun w' => w'.cell? ⟨b, 0, none⟩ = some (.string x.f0) ∧ Below W.heap.size W w') (ds := []) #[false, false, false, false, false, false] (by kernel_rfl) rfl rfl ⟨cc0, below_drew1 (Below.refl _ _)⟩ (fun hHeld => ?_)
                      refine pure_ (i := 0) (N := some 50) (v := ?_) (a' := ?_) #[true, false, false, false, false, false] rfl rfl (by kernel_rfl) (fun _ _ _ h => h) (Or.inl ⟨by rfl, ?_⟩) ?_ ?_
                      rotate_left
                      · intro w'
                        go_simp
                        with_reducible rfl
                      rotate_left
                      · simp only [Act.put, List.setIfInBounds_toArray, List.set_cons_zero, List.set_cons_succ, i64_w, i32_w]
                        rfl
                      refine pure_ (i := 2) (N := some 52) (v := ?_) (a' := ?_) #[true, false, true, false, false, false] rfl rfl (by kernel_rfl) (fun _ _ _ h => h) (Or.inl ⟨by rfl, ?_⟩) ?_ ?_
                      rotate_left
                      · intro w'
                        go_simp
                        with_reducible rfl
                      rotate_left
                      · simp only [Act.put, List.setIfInBounds_toArray, List.set_cons_zero, List.set_cons_succ, i64_w, i32_w]
                        rfl
                      refine take_ (i := 1) (N := some 51) (v := ?_) (a' := ?_) #[true, true, true, false, false, false] rfl rfl (by kernel_rfl) (fun _ _ _ h => h) (Or.inl ⟨by rfl, ?_⟩) hHeld ?_ ?_
                      rotate_left
                      · rintro w' ⟨s0, _⟩
                        go_simp
                        with_reducible rfl
                      rotate_left
                      · simp only [Act.put, List.setIfInBounds_toArray, List.set_cons_zero, List.set_cons_succ, i64_w, i32_w]
                        rfl
                      refine one_ (i := 3) (N := some 53) #[true, true, true, true, false, false] rfl rfl (by kernel_rfl) (by decide) (fun K hK => ?_)
                      refine goesC_ Tryz.func100 (by kernel_rfl) rfl #[.pointer (some ⟨b, 0, none⟩)] #[.int .i64 0, .pointer (some ⟨b, 0, none⟩)] (by rfl) rfl rfl (by rfl) (by simp only [List.map_toArray, List.map_cons, List.map_nil, List.append_toArray, List.cons_append, List.nil_append]; rfl) ?_
                      refine (ih x _ A c b 0 0 rfl (by omega) HX.out HT.out HZ0.out (HG.out.below (below_drew1 (Below.refl W.heap.size W))) HL.out (Kd.C_below HC.out (below_drew1 (Below.refl W.heap.size W))) (((below_drew1 (Below.refl W.heap.size W))).block b hlt ▸ BK.out)).mono ?_
                      rintro e1 w1 ⟨rfl, hb⟩
                      have HB1 := Aside0.mk (below_step (below_drew1 (Below.refl W.heap.size W)) hb)
                      refine ⟨_, rfl, ?_⟩
                      clear hb
                      have z1 := pw_cell_below HB1.out cc0
                      refine hK.out _ _ ⟨z1, HB1.out⟩ (fun hHeld => ?_)
                      clear hK K z1
                      refine norm_ (a' := ?_) ?_ ?_
                      rotate_left
                      · show Act.put _ (some 53) _ = _
                        simp only [Act.put, List.setIfInBounds_toArray, List.set_cons_zero, List.set_cons_succ, i64_w, i32_w]
                        rfl
                      refine pure_ (i := 4) (N := some 54) (v := ?_) (a' := ?_) #[true, true, true, true, true, false] rfl rfl (by kernel_rfl) (fun _ _ _ h => h) (Or.inl ⟨by rfl, ?_⟩) ?_ ?_
                      rotate_left
                      · intro w'
                        go_simp
                        with_reducible rfl
                      rotate_left
                      · simp only [Act.put, List.setIfInBounds_toArray, List.set_cons_zero, List.set_cons_succ, i64_w, i32_w]
                        rfl
                      refine pure_ (i := 5) (N := some 2) (v := ?_) (a' := ?_) #[true, true, true, true, true, true] rfl rfl (by kernel_rfl) (fun _ _ _ h => h) (Or.inl ⟨by rfl, ?_⟩) ?_ ?_
                      rotate_left
                      · intro w'
                        go_simp
                        with_reducible rfl
                      rotate_left
                      · simp only [Act.put, List.setIfInBounds_toArray, List.set_cons_zero, List.set_cons_succ, i64_w, i32_w]
                        rfl
                      refine done_ (by kernel_rfl) ?_
                      go_wp2
                      go_ret
                      exact ⟨by rw [HT0.out]; rfl, below_step HB.out HB1.out⟩
                    · skip
                      by_cases c10 : x.f0.toList = [109, 97, 120]
                      · have f00 : (x.f0.toList == [118, 97, 108]) = false := beq_eq_false_iff_ne.mpr c0
                        have f10 : (x.f0.toList == [99, 111, 108]) = false := beq_eq_false_iff_ne.mpr c1
                        have f20 : (x.f0.toList == [111, 114]) = false := beq_eq_false_iff_ne.mpr c2
                        have f30 : (x.f0.toList == [97, 110, 100]) = false := beq_eq_false_iff_ne.mpr c3
                        have f40 : (x.f0.toList == [110, 111, 116]) = false := beq_eq_false_iff_ne.mpr c4
                        have f50 : (x.f0.toList == [110, 101, 103]) = false := beq_eq_false_iff_ne.mpr c5
                        have f60 : (x.f0.toList == [105, 115, 110, 117, 108, 108]) = false := beq_eq_false_iff_ne.mpr c6
                        have f70 : (x.f0.toList == [99, 111, 117, 110, 116]) = false := beq_eq_false_iff_ne.mpr c7
                        have f80 : (x.f0.toList == [115, 117, 109]) = false := beq_eq_false_iff_ne.mpr c8
                        have f90 : (x.f0.toList == [109, 105, 110]) = false := beq_eq_false_iff_ne.mpr c9
                        have f101 : (x.f0.toList == [109, 97, 120]) = true := beq_iff_eq.mpr c10
                        have e0 := txt_eq x
                        unfold txtB at e0
                        rw [if_neg c0, if_neg c1, if_neg c2, if_neg c3, if_neg c4, if_neg c5, if_neg c6, if_neg c7, if_neg c8, if_neg c9, if_pos c10] at e0
                        simp only [← inn_def] at e0
                        clear c0 c1 c2 c3 c4 c5 c6 c7 c8 c9 c10
                        have hz : x.f0.size + (inn x.f3 0).size ≤ 1000000000 := by
                          have h1 := HZ.out
                          rw [e0] at h1
                          simp only [ByteArray.size_append, (show (⟨#[32]⟩ : ByteArray).size = 1 from rfl), (show (⟨#[110, 111, 116, 32]⟩ : ByteArray).size = 4 from rfl), (show (⟨#[45]⟩ : ByteArray).size = 1 from rfl), (show (⟨#[32, 105, 115, 32, 110, 117, 108, 108]⟩ : ByteArray).size = 8 from rfl)] at h1
                          exact h1
                        have HZ0 := Aside0.mk (show (inn x.f3 0).size ≤ 1000000000 by omega)
                        have t0 : (9223372036854775807 < x.f0.size + (inn x.f3 0).size) = False := eq_false (by omega)
                        have HT0 := Aside0.mk e0
                        clear e0
                        go_upto_region 21 with (fail)
                        refine start_ (n := 6) (S := fun w' => w'.cell? ⟨b, 0, none⟩ = some (.string x.f0) ∧ Below W.heap.size W w') (ds := []) #[false, false, false, false, false, false] (by kernel_rfl) rfl rfl ⟨cc0, below_drew1 (Below.refl _ _)⟩ (fun hHeld => ?_)
                        refine pure_ (i := 0) (N := some 50) (v := ?_) (a' := ?_) #[true, false, false, false, false, false] rfl rfl (by kernel_rfl) (fun _ _ _ h => h) (Or.inl ⟨by rfl, ?_⟩) ?_ ?_
                        rotate_left
                        · intro w'
                          go_simp
                          with_reducible rfl
                        rotate_left
                        · simp only [Act.put, List.setIfInBounds_toArray, List.set_cons_zero, List.set_cons_succ, i64_w, i32_w]
                          rfl
                        refine pure_ (i := 2) (N := some 52) (v := ?_) (a' := ?_) #[true, false, true, false, false, false] rfl rfl (by kernel_rfl) (fun _ _ _ h => h) (Or.inl ⟨by rfl, ?_⟩) ?_ ?_
                        rotate_left
                        · intro w'
                          go_simp
                          with_reducible rfl
                        rotate_left
                        · simp only [Act.put, List.setIfInBounds_toArray, List.set_cons_zero, List.set_cons_succ, i64_w, i32_w]
                          rfl
                        refine take_ (i := 1) (N := some 51) (v := ?_) (a' := ?_) #[true, true, true, false, false, false] rfl rfl (by kernel_rfl) (fun _ _ _ h => h) (Or.inl ⟨by rfl, ?_⟩) hHeld ?_ ?_
                        rotate_left
                        · rintro w' ⟨s0, _⟩
                          go_simp
                          with_reducible rfl
                        rotate_left
                        · simp only [Act.put, List.setIfInBounds_toArray, List.set_cons_zero, List.set_cons_succ, i64_w, i32_w]
                          rfl
                        refine one_ (i := 3) (N := some 53) #[true, true, true, true, false, false] rfl rfl (by kernel_rfl) (by decide) (fun K hK => ?_)
                        refine goesC_ Tryz.func100 (by kernel_rfl) rfl #[.pointer (some ⟨b, 0, none⟩)] #[.int .i64 0, .pointer (some ⟨b, 0, none⟩)] (by rfl) rfl rfl (by rfl) (by simp only [List.map_toArray, List.map_cons, List.map_nil, List.append_toArray, List.cons_append, List.nil_append]; rfl) ?_
                        refine (ih x _ A c b 0 0 rfl (by omega) HX.out HT.out HZ0.out (HG.out.below (below_drew1 (Below.refl W.heap.size W))) HL.out (Kd.C_below HC.out (below_drew1 (Below.refl W.heap.size W))) (((below_drew1 (Below.refl W.heap.size W))).block b hlt ▸ BK.out)).mono ?_
                        rintro e1 w1 ⟨rfl, hb⟩
                        have HB1 := Aside0.mk (below_step (below_drew1 (Below.refl W.heap.size W)) hb)
                        refine ⟨_, rfl, ?_⟩
                        clear hb
                        have z1 := pw_cell_below HB1.out cc0
                        refine hK.out _ _ ⟨z1, HB1.out⟩ (fun hHeld => ?_)
                        clear hK K z1
                        refine norm_ (a' := ?_) ?_ ?_
                        rotate_left
                        · show Act.put _ (some 53) _ = _
                          simp only [Act.put, List.setIfInBounds_toArray, List.set_cons_zero, List.set_cons_succ, i64_w, i32_w]
                          rfl
                        refine pure_ (i := 4) (N := some 54) (v := ?_) (a' := ?_) #[true, true, true, true, true, false] rfl rfl (by kernel_rfl) (fun _ _ _ h => h) (Or.inl ⟨by rfl, ?_⟩) ?_ ?_
                        rotate_left
                        · intro w'
                          go_simp
                          with_reducible rfl
                        rotate_left
                        · simp only [Act.put, List.setIfInBounds_toArray, List.set_cons_zero, List.set_cons_succ, i64_w, i32_w]
                          rfl
                        refine pure_ (i := 5) (N := some 2) (v := ?_) (a' := ?_) #[true, true, true, true, true, true] rfl rfl (by kernel_rfl) (fun _ _ _ h => h) (Or.inl ⟨by rfl, ?_⟩) ?_ ?_
                        rotate_left
                        · intro w'
                          go_simp
                          with_reducible rfl
                        rotate_left
                        · simp only [Act.put, List.setIfInBounds_toArray, List.set_cons_zero, List.set_cons_succ, i64_w, i32_w]
                          rfl
                        refine done_ (by kernel_rfl) ?_
                        go_wp2
                        go_ret
                        exact ⟨by rw [HT0.out]; rfl, below_step HB.out HB1.out⟩
                      · skip
                        by_cases hB : bigB x.f0 = true
                        · have g0 := bigB_true hB
                          obtain ⟨g1, g2⟩ := g0
                          have g3 : (x.f0.toList != [105, 115]) = true := by unfold bne; rw [g2]; rfl
                          have g4 : decide (3 < Ps.binds x.f0) = true := decide_eq_true g1
                          have BI := Aside0.mk (binds_is x.f0)
                          generalize Ps.binds x.f0 = bv at BI g4 g1
                          have f00 : (x.f0.toList == [118, 97, 108]) = false := beq_eq_false_iff_ne.mpr c0
                          have f10 : (x.f0.toList == [99, 111, 108]) = false := beq_eq_false_iff_ne.mpr c1
                          have f20 : (x.f0.toList == [111, 114]) = false := beq_eq_false_iff_ne.mpr c2
                          have f30 : (x.f0.toList == [97, 110, 100]) = false := beq_eq_false_iff_ne.mpr c3
                          have f40 : (x.f0.toList == [110, 111, 116]) = false := beq_eq_false_iff_ne.mpr c4
                          have f50 : (x.f0.toList == [110, 101, 103]) = false := beq_eq_false_iff_ne.mpr c5
                          have f60 : (x.f0.toList == [105, 115, 110, 117, 108, 108]) = false := beq_eq_false_iff_ne.mpr c6
                          have f70 : (x.f0.toList == [99, 111, 117, 110, 116]) = false := beq_eq_false_iff_ne.mpr c7
                          have f80 : (x.f0.toList == [115, 117, 109]) = false := beq_eq_false_iff_ne.mpr c8
                          have f90 : (x.f0.toList == [109, 105, 110]) = false := beq_eq_false_iff_ne.mpr c9
                          have f100 : (x.f0.toList == [109, 97, 120]) = false := beq_eq_false_iff_ne.mpr c10
                          have e0 := txt_eq x
                          unfold txtB at e0
                          rw [if_neg c0, if_neg c1, if_neg c2, if_neg c3, if_neg c4, if_neg c5, if_neg c6, if_neg c7, if_neg c8, if_neg c9, if_neg c10, if_pos hB] at e0
                          simp only [← inn_def] at e0
                          clear c0 c1 c2 c3 c4 c5 c6 c7 c8 c9 c10 hB
                          have hz : (inn x.f3 0).size + x.f0.size + (inn x.f3 1).size ≤ 1000000000 := by
                            have h1 := HZ.out
                            rw [e0] at h1
                            simp only [ByteArray.size_append, (show (⟨#[32]⟩ : ByteArray).size = 1 from rfl), (show (⟨#[110, 111, 116, 32]⟩ : ByteArray).size = 4 from rfl), (show (⟨#[45]⟩ : ByteArray).size = 1 from rfl), (show (⟨#[32, 105, 115, 32, 110, 117, 108, 108]⟩ : ByteArray).size = 8 from rfl)] at h1
                            exact h1
                          have HZ0 := Aside0.mk (show (inn x.f3 0).size ≤ 1000000000 by omega)
                          have HZ1 := Aside0.mk (show (inn x.f3 1).size ≤ 1000000000 by omega)
                          have t0 : (9223372036854775807 < (inn x.f3 0).size + x.f0.size) = False := eq_false (by omega)
                          have t1 : (9223372036854775807 < (inn x.f3 0).size + x.f0.size + (inn x.f3 1).size) = False := eq_false (by omega)
                          have HT0 := Aside0.mk e0
                          clear e0
                          go_upto_region 23 with (first | (go_at_call 102; refine (parse_binds.calls 3 _ _ _ BI.out).mono ?_; rintro e w4 ⟨rfl, ⟨nd, rfl⟩⟩))
                          refine start_ (n := 9) (S := fun w' => w'.cell? ⟨b, 0, none⟩ = some (.string x.f0) ∧ Below W.heap.size W w') (ds := []) #[false, false, false, false, false, false, false, false, false] (by kernel_rfl) rfl rfl ⟨pw_cell_below (below_drew1 (pw_below_drewN (Below.refl W.heap.size W) nd)) cc0, below_drew1 (pw_below_drewN (Below.refl _ _) nd)⟩ (fun hHeld => ?_)
                          refine pure_ (i := 0) (N := some 64) (v := ?_) (a' := ?_) #[true, false, false, false, false, false, false, false, false] rfl rfl (by kernel_rfl) (fun _ _ _ h => h) (Or.inl ⟨by rfl, ?_⟩) ?_ ?_
                          rotate_left
                          · intro w'
                            go_simp
                            with_reducible rfl
                          rotate_left
                          · simp only [Act.put, List.setIfInBounds_toArray, List.set_cons_zero, List.set_cons_succ, i64_w, i32_w]
                            rfl
                          refine pure_ (i := 5) (N := some 69) (v := ?_) (a' := ?_) #[true, false, false, false, false, true, false, false, false] rfl rfl (by kernel_rfl) (fun _ _ _ h => h) (Or.inl ⟨by rfl, ?_⟩) ?_ ?_
                          rotate_left
                          · intro w'
                            go_simp
                            with_reducible rfl
                          rotate_left
                          · simp only [Act.put, List.setIfInBounds_toArray, List.set_cons_zero, List.set_cons_succ, i64_w, i32_w]
                            rfl
                          refine pure_ (i := 2) (N := some 66) (v := ?_) (a' := ?_) #[true, false, true, false, false, true, false, false, false] rfl rfl (by kernel_rfl) (fun _ _ _ h => h) (Or.inl ⟨by rfl, ?_⟩) ?_ ?_
                          rotate_left
                          · intro w'
                            go_simp
                            with_reducible rfl
                          rotate_left
                          · simp only [Act.put, List.setIfInBounds_toArray, List.set_cons_zero, List.set_cons_succ, i64_w, i32_w]
                            rfl
                          refine take_ (i := 3) (N := some 67) (v := ?_) (a' := ?_) #[true, false, true, true, false, true, false, false, false] rfl rfl (by kernel_rfl) (fun _ _ _ h => h) (Or.inl ⟨by rfl, ?_⟩) hHeld ?_ ?_
                          rotate_left
                          · rintro w' ⟨s0, _⟩
                            go_simp
                            with_reducible rfl
                          rotate_left
                          · simp only [Act.put, List.setIfInBounds_toArray, List.set_cons_zero, List.set_cons_succ, i64_w, i32_w]
                            rfl
                          refine one_ (i := 1) (N := some 65) #[true, true, true, true, false, true, false, false, false] rfl rfl (by kernel_rfl) (by decide) (fun K hK => ?_)
                          refine goesC_ Tryz.func100 (by kernel_rfl) rfl #[.pointer (some ⟨b, 0, none⟩)] #[.int .i64 0, .pointer (some ⟨b, 0, none⟩)] (by rfl) rfl rfl (by rfl) (by simp only [List.map_toArray, List.map_cons, List.map_nil, List.append_toArray, List.cons_append, List.nil_append]; rfl) ?_
                          refine (ih x _ A c b 0 0 rfl (by omega) HX.out HT.out HZ0.out (HG.out.below (below_drew1 (pw_below_drewN (Below.refl W.heap.size W) nd))) HL.out (Kd.C_below HC.out (below_drew1 (pw_below_drewN (Below.refl W.heap.size W) nd))) (((below_drew1 (pw_below_drewN (Below.refl W.heap.size W) nd))).block b hlt ▸ BK.out)).mono ?_
                          rintro e1 w1 ⟨rfl, hb⟩
                          have HB1 := Aside0.mk (below_step (below_drew1 (pw_below_drewN (Below.refl W.heap.size W) nd)) hb)
                          refine ⟨_, rfl, ?_⟩
                          clear hb
                          have z1 := pw_cell_below HB1.out cc0
                          refine hK.out _ _ ⟨z1, HB1.out⟩ (fun hHeld => ?_)
                          clear hK K z1
                          refine norm_ (a' := ?_) ?_ ?_
                          rotate_left
                          · show Act.put _ (some 65) _ = _
                            simp only [Act.put, List.setIfInBounds_toArray, List.set_cons_zero, List.set_cons_succ, i64_w, i32_w]
                            rfl
                          refine pure_ (i := 4) (N := some 68) (v := ?_) (a' := ?_) #[true, true, true, true, true, true, false, false, false] rfl rfl (by kernel_rfl) (fun _ _ _ h => h) (Or.inl ⟨by rfl, ?_⟩) ?_ ?_
                          rotate_left
                          · intro w'
                            go_simp
                            with_reducible rfl
                          rotate_left
                          · simp only [Act.put, List.setIfInBounds_toArray, List.set_cons_zero, List.set_cons_succ, i64_w, i32_w]
                            rfl
                          refine one_ (i := 6) (N := some 70) #[true, true, true, true, true, true, true, false, false] rfl rfl (by kernel_rfl) (by decide) (fun K hK => ?_)
                          refine goesC_ Tryz.func100 (by kernel_rfl) rfl #[.pointer (some ⟨b, 0, none⟩)] #[.int .i64 1, .pointer (some ⟨b, 0, none⟩)] (by rfl) rfl rfl (by rfl) (by simp only [List.map_toArray, List.map_cons, List.map_nil, List.append_toArray, List.cons_append, List.nil_append]; rfl) ?_
                          refine (ih x _ A c b 1 1 rfl (by omega) HX.out HT.out HZ1.out (HG.out.below HB1.out) HL.out (Kd.C_below HC.out HB1.out) ((HB1.out).block b hlt ▸ BK.out)).mono ?_
                          rintro e2 w2 ⟨rfl, hb⟩
                          have HB2 := Aside0.mk (below_step HB1.out hb)
                          refine ⟨_, rfl, ?_⟩
                          clear hb
                          have z2 := pw_cell_below HB2.out cc0
                          refine hK.out _ _ ⟨z2, HB2.out⟩ (fun hHeld => ?_)
                          clear hK K z2
                          refine norm_ (a' := ?_) ?_ ?_
                          rotate_left
                          · show Act.put _ (some 70) _ = _
                            simp only [Act.put, List.setIfInBounds_toArray, List.set_cons_zero, List.set_cons_succ, i64_w, i32_w]
                            rfl
                          refine pure_ (i := 7) (N := some 71) (v := ?_) (a' := ?_) #[true, true, true, true, true, true, true, true, false] rfl rfl (by kernel_rfl) (fun _ _ _ h => h) (Or.inl ⟨by rfl, ?_⟩) ?_ ?_
                          rotate_left
                          · intro w'
                            go_simp
                            with_reducible rfl
                          rotate_left
                          · simp only [Act.put, List.setIfInBounds_toArray, List.set_cons_zero, List.set_cons_succ, i64_w, i32_w]
                            rfl
                          refine pure_ (i := 8) (N := some 2) (v := ?_) (a' := ?_) #[true, true, true, true, true, true, true, true, true] rfl rfl (by kernel_rfl) (fun _ _ _ h => h) (Or.inl ⟨by rfl, ?_⟩) ?_ ?_
                          rotate_left
                          · intro w'
                            go_simp
                            with_reducible rfl
                          rotate_left
                          · simp only [Act.put, List.setIfInBounds_toArray, List.set_cons_zero, List.set_cons_succ, i64_w, i32_w]
                            rfl
                          refine done_ (by kernel_rfl) ?_
                          go_wp2
                          go_ret
                          exact ⟨by rw [HT0.out]; rfl, below_step HB.out HB2.out⟩
                        · have g0 := bigB_false hB
                          have BI := Aside0.mk (binds_is x.f0)
                          have f00 : (x.f0.toList == [118, 97, 108]) = false := beq_eq_false_iff_ne.mpr c0
                          have f10 : (x.f0.toList == [99, 111, 108]) = false := beq_eq_false_iff_ne.mpr c1
                          have f20 : (x.f0.toList == [111, 114]) = false := beq_eq_false_iff_ne.mpr c2
                          have f30 : (x.f0.toList == [97, 110, 100]) = false := beq_eq_false_iff_ne.mpr c3
                          have f40 : (x.f0.toList == [110, 111, 116]) = false := beq_eq_false_iff_ne.mpr c4
                          have f50 : (x.f0.toList == [110, 101, 103]) = false := beq_eq_false_iff_ne.mpr c5
                          have f60 : (x.f0.toList == [105, 115, 110, 117, 108, 108]) = false := beq_eq_false_iff_ne.mpr c6
                          have f70 : (x.f0.toList == [99, 111, 117, 110, 116]) = false := beq_eq_false_iff_ne.mpr c7
                          have f80 : (x.f0.toList == [115, 117, 109]) = false := beq_eq_false_iff_ne.mpr c8
                          have f90 : (x.f0.toList == [109, 105, 110]) = false := beq_eq_false_iff_ne.mpr c9
                          have f100 : (x.f0.toList == [109, 97, 120]) = false := beq_eq_false_iff_ne.mpr c10
                          have e0 := txt_eq x
                          unfold txtB at e0
                          rw [if_neg c0, if_neg c1, if_neg c2, if_neg c3, if_neg c4, if_neg c5, if_neg c6, if_neg c7, if_neg c8, if_neg c9, if_neg c10, if_neg hB] at e0
                          clear c0 c1 c2 c3 c4 c5 c6 c7 c8 c9 c10 hB
                          have HT0 := Aside0.mk e0
                          clear e0
                          rcases g0 with g0 | g0
                          · have g4 : decide (3 < Ps.binds x.f0) = false := decide_eq_false (by omega)
                            generalize Ps.binds x.f0 = bv at BI g4 g0
                            go_wp2_with (first | (go_at_call 102; refine (parse_binds.calls 3 _ _ _ BI.out).mono ?_; rintro e w4 ⟨rfl, ⟨nd, rfl⟩⟩))
                            go_ret
                            exact ⟨by rw [HT0.out]; rfl, pw_below_drewN HB.out nd⟩
                          · have g2 : (x.f0.toList == [105, 115]) = true := g0
                            have g3 : (x.f0.toList != [105, 115]) = false := by unfold bne; rw [g2]; rfl
                            by_cases g1 : Ps.binds x.f0 > 3
                            · have g4 : decide (3 < Ps.binds x.f0) = true := decide_eq_true g1
                              generalize Ps.binds x.f0 = bv at BI g4 g1
                              go_wp2_with (first | (go_at_call 102; refine (parse_binds.calls 3 _ _ _ BI.out).mono ?_; rintro e w4 ⟨rfl, ⟨nd, rfl⟩⟩))
                              go_ret
                              exact ⟨by rw [HT0.out]; rfl, pw_below_drewN HB.out nd⟩
                            · have g4 : decide (3 < Ps.binds x.f0) = false := decide_eq_false g1
                              generalize Ps.binds x.f0 = bv at BI g4 g1
                              go_wp2_with (first | (go_at_call 102; refine (parse_binds.calls 3 _ _ _ BI.out).mono ?_; rintro e w4 ⟨rfl, ⟨nd, rfl⟩⟩))
                              go_ret
                              exact ⟨by rw [HT0.out]; rfl, pw_below_drewN HB.out nd⟩
end Go.Proofs.YtcgdncpioafbdaaGreatDoor.Q

/- Lemmas for the law: TxB Aw Glue Nm Ls Qlists. -/
import Derived.Test.YtcgdncpioafbdaaGreatDoorRows
import Derived.Test.YtcgdncpioafbdaaGreatDoorTie
import Derived.Test.YtcgdncpioafbdaaGreatDoorCards
import Derived.Test.YtcgdncpioafbdaaGreatDoorS1
import Derived.Test.YtcgdncpioafbdaaGreatDoorS2
import Derived.Test.YtcgdncpioafbdaaGreatDoorS3
import Derived.Test.YtcgdncpioafbdaaGreatDoorS4
set_option linter.unusedVariables false
set_option linter.unusedSimpArgs false
/- Text of an expression: the program's. -/
namespace Go.Proofs.YtcgdncpioafbdaaGreatDoor.Q
open Go Go.RowKit Go.Proofs.YtcgdncpioafbdaaGreatDoorW.PrintWords Go.Proofs.YtcgdncpioafbdaaGreatDoorW.PrintLast Go.Proofs.YtcgdncpioafbdaaGreatDoorW.PrintMore
theorem bigB_true {s : ByteArray} (h : bigB s = true) : Ps.binds s > 3 ∧ (s.toList == [105, 115]) = false := by
  unfold bigB at h
  simpa using h
theorem bigB_false {s : ByteArray} (h : ¬ bigB s = true) : ¬ Ps.binds s > 3 ∨ (s.toList == [105, 115]) = true := by
  unfold bigB at h
  by_cases h1 : Ps.binds s > 3
  · right
    simpa [h1] using h
  · exact .inl h1
set_option maxHeartbeats 2000000 in
set_option maxRecDepth 100000 in
theorem text_step (n : Nat) (ih : InAt n) : TextAt (n + 1) := by
  intro x w A c hx hT hz hG hc hC
  have HX := Aside0.mk (show fus x.f3 ≤ n by have := fu_eq x; omega)
  have HT := Aside0.mk ((TG_eq x).1 hT).2
  have HN := Aside0.mk ((TG_eq x).1 hT).1
  have HZ := Aside0.mk hz
  have HL := Aside0.mk hc
  clear hx hT hz hc
  unfold cells43
  go_enter Tryz.func41, Tryz.ntmps41
  go_upto_region 1 with (fail)
  have HB := Aside0.mk (below_alloc (Below.refl w.heap.size w) (.cells #[.string x.f0, .int .i64 x.f1.f0, .int .i64 x.f1.f1, .string x.f1.f2, .string x.f2, .slice A x.f3.length c] 43 (0, 0)))
  have HG1 := Aside0.mk (hG.below HB.out)
  have HC1 := Aside0.mk (Kd.C_below hC HB.out)
  have BK := Aside0.mk (new_blk (W := w) (.cells #[.string x.f0, .int .i64 x.f1.f0, .int .i64 x.f1.f1, .string x.f1.f2, .string x.f2, .slice A x.f3.length c] 43 (0, 0)) rfl)
  clear hG hC
  have HG := HG1
  have HC := HC1
  clear HG1 HC1
  generalize hb1 : w.heap.size = b at BK ⊢
  generalize hW : w.alloc (.cells #[.string x.f0, .int .i64 x.f1.f0, .int .i64 x.f1.f1, .string x.f1.f2, .string x.f2, .slice A x.f3.length c] 43 (0, 0)) = W at HB HG HC BK ⊢
  clear hW
  have cc0 : W.cell? ⟨b, 0, none⟩ = some (.string x.f0) := (blk_cell BK.out 0).trans rfl
  have cc1 : W.cell? ⟨b, 1, none⟩ = some (.int .i64 x.f1.f0) := (blk_cell BK.out 1).trans rfl
  have cc2 : W.cell? ⟨b, 2, none⟩ = some (.int .i64 x.f1.f1) := (blk_cell BK.out 2).trans rfl
  have cc3 : W.cell? ⟨b, 3, none⟩ = some (.string x.f1.f2) := (blk_cell BK.out 3).trans rfl
  have cc4 : W.cell? ⟨b, 4, none⟩ = some (.string x.f2) := (blk_cell BK.out 4).trans rfl
  have cc5 : W.cell? ⟨b, 5, none⟩ = some (.slice A x.f3.length c) := (blk_cell BK.out 5).trans rfl
  have hlt := blk_lt BK.out
  by_cases c0 : x.f0.toList = [118, 97, 108]
  · have f01 : (x.f0.toList == [118, 97, 108]) = true := beq_iff_eq.mpr c0
    have e0 := txt_eq x
    unfold txtB at e0
    rw [if_pos c0] at e0
    clear c0
    have HL1 := Aside0.mk (pLit (k := 40) (v := x.f1) (by omega) HN.out.1 HN.out.2.1 (by have h1 := HZ.out; rw [e0] at h1; exact h1))
    have HT0 := Aside0.mk e0
    clear e0
    go_wp2_with (first | (go_at_call 101; refine (parse_literal.calls 40 x.f1.f0 x.f1.f1 x.f1.f2 (lit x.f1) _ HL1.out HG.out).mono ?_; rintro e1 w1 ⟨rfl, hb⟩; have HB1 := Aside0.mk hb; clear hb))
    go_ret
    exact ⟨by rw [HT0.out]; rfl, below_step HB.out HB1.out⟩
  · skip
    by_cases c1 : x.f0.toList = [99, 111, 108]
    · have f00 : (x.f0.toList == [118, 97, 108]) = false := beq_eq_false_iff_ne.mpr c0
      have f11 : (x.f0.toList == [99, 111, 108]) = true := beq_iff_eq.mpr c1
      have e0 := txt_eq x
      unfold txtB at e0
      rw [if_neg c0, if_pos c1] at e0
      clear c0 c1
      have HT0 := Aside0.mk e0
      clear e0
      go_wp2
      go_ret
      exact ⟨by rw [HT0.out]; rfl, HB.out⟩
    · skip
      by_cases c2 : x.f0.toList = [111, 114]
      · have f00 : (x.f0.toList == [118, 97, 108]) = false := beq_eq_false_iff_ne.mpr c0
        have f10 : (x.f0.toList == [99, 111, 108]) = false := beq_eq_false_iff_ne.mpr c1
        have f21 : (x.f0.toList == [111, 114]) = true := beq_iff_eq.mpr c2
        have e0 := txt_eq x
        unfold txtB at e0
        rw [if_neg c0, if_neg c1, if_pos c2] at e0
        simp only [← inn_def] at e0
        clear c0 c1 c2
        have hz : (inn x.f3 0).size + 1 + x.f0.size + 1 + (inn x.f3 1).size ≤ 1000000000 := by
          have h1 := HZ.out
          rw [e0] at h1
          simp only [ByteArray.size_append, (show (⟨#[32]⟩ : ByteArray).size = 1 from rfl), (show (⟨#[110, 111, 116, 32]⟩ : ByteArray).size = 4 from rfl), (show (⟨#[45]⟩ : ByteArray).size = 1 from rfl), (show (⟨#[32, 105, 115, 32, 110, 117, 108, 108]⟩ : ByteArray).size = 8 from rfl)] at h1
          exact h1
        have HZ0 := Aside0.mk (show (inn x.f3 0).size ≤ 1000000000 by omega)
        have HZ1 := Aside0.mk (show (inn x.f3 1).size ≤ 1000000000 by omega)
        have t0 : (9223372036854775807 < (inn x.f3 0).size + 1) = False := eq_false (by omega)
        have t1 : (9223372036854775807 < (inn x.f3 0).size + 1 + x.f0.size) = False := eq_false (by omega)
        have t2 : (9223372036854775807 < (inn x.f3 0).size + 1 + x.f0.size + 1) = False := eq_false (by omega)
        have t3 : (9223372036854775807 < (inn x.f3 0).size + 1 + x.f0.size + 1 + (inn x.f3 1).size) = False := eq_false (by omega)
        have HT0 := Aside0.mk e0
        clear e0
        go_upto_region 9 with (fail)
        refine start_ (n := 11) (S := fun w' => w'.cell? ⟨b, 0, none⟩ = some (.string x.f0) ∧ Below W.heap.size W w') (ds := []) #[false, false, false, false, false, false, false, false, false, false, false] (by kernel_rfl) rfl rfl ⟨cc0, below_drew1 (Below.refl _ _)⟩ (fun hHeld => ?_)
        refine pure_ (i := 0) (N := some 19) (v := ?_) (a' := ?_) #[true, false, false, false, false, false, false, false, false, false, false] rfl rfl (by kernel_rfl) (fun _ _ _ h => h) (Or.inl ⟨by rfl, ?_⟩) ?_ ?_
        rotate_left
        · intro w'
          go_simp
          with_reducible rfl
        rotate_left
        · simp only [Act.put, List.setIfInBounds_toArray, List.set_cons_zero, List.set_cons_succ, i64_w, i32_w]
          rfl
        refine pure_ (i := 7) (N := some 26) (v := ?_) (a' := ?_) #[true, false, false, false, false, false, false, true, false, false, false] rfl rfl (by kernel_rfl) (fun _ _ _ h => h) (Or.inl ⟨by rfl, ?_⟩) ?_ ?_
        rotate_left
        · intro w'
          go_simp
          with_reducible rfl
        rotate_left
        · simp only [Act.put, List.setIfInBounds_toArray, List.set_cons_zero, List.set_cons_succ, i64_w, i32_w]
          rfl
        refine pure_ (i := 3) (N := some 22) (v := ?_) (a' := ?_) #[true, false, false, true, false, false, false, true, false, false, false] rfl rfl (by kernel_rfl) (fun _ _ _ h => h) (Or.inl ⟨by rfl, ?_⟩) ?_ ?_
        rotate_left
        · intro w'
          go_simp
          with_reducible rfl
        rotate_left
        · simp only [Act.put, List.setIfInBounds_toArray, List.set_cons_zero, List.set_cons_succ, i64_w, i32_w]
          rfl
        refine take_ (i := 4) (N := some 23) (v := ?_) (a' := ?_) #[true, false, false, true, true, false, false, true, false, false, false] rfl rfl (by kernel_rfl) (fun _ _ _ h => h) (Or.inl ⟨by rfl, ?_⟩) hHeld ?_ ?_
        rotate_left
        · rintro w' ⟨s0, _⟩
          go_simp
          with_reducible rfl
        rotate_left
        · simp only [Act.put, List.setIfInBounds_toArray, List.set_cons_zero, List.set_cons_succ, i64_w, i32_w]
          rfl
        refine one_ (i := 1) (N := some 20) #[true, true, false, true, true, false, false, true, false, false, false] rfl rfl (by kernel_rfl) (by decide) (fun K hK => ?_)
        refine goesC_ Tryz.func100 (by kernel_rfl) rfl #[.pointer (some ⟨b, 0, none⟩)] #[.int .i64 0, .pointer (some ⟨b, 0, none⟩)] (by rfl) rfl rfl (by rfl) (by simp only [List.map_toArray, List.map_cons, List.map_nil, List.append_toArray, List.cons_append, List.nil_append]; rfl) ?_
        refine (ih x _ A c b 0 0 rfl (by omega) HX.out HT.out HZ0.out (HG.out.below (below_drew1 (Below.refl W.heap.size W))) HL.out (Kd.C_below HC.out (below_drew1 (Below.refl W.heap.size W))) (((below_drew1 (Below.refl W.heap.size W))).block b hlt ▸ BK.out)).mono ?_
        rintro e1 w1 ⟨rfl, hb⟩
        have HB1 := Aside0.mk (below_step (below_drew1 (Below.refl W.heap.size W)) hb)
        refine ⟨_, rfl, ?_⟩
        clear hb
        have z1 := pw_cell_below HB1.out cc0
        refine hK.out _ _ ⟨z1, HB1.out⟩ (fun hHeld => ?_)
        clear hK K z1
        refine norm_ (a' := ?_) ?_ ?_
        rotate_left
        · show Act.put _ (some 20) _ = _
          simp only [Act.put, List.setIfInBounds_toArray, List.set_cons_zero, List.set_cons_succ, i64_w, i32_w]
          rfl
        refine pure_ (i := 2) (N := some 21) (v := ?_) (a' := ?_) #[true, true, true, true, true, false, false, true, false, false, false] rfl rfl (by kernel_rfl) (fun _ _ _ h => h) (Or.inl ⟨by rfl, ?_⟩) ?_ ?_
        rotate_left
        · intro w'
          go_simp
          with_reducible rfl
        rotate_left
        · simp only [Act.put, List.setIfInBounds_toArray, List.set_cons_zero, List.set_cons_succ, i64_w, i32_w]
          rfl
        refine pure_ (i := 5) (N := some 24) (v := ?_) (a' := ?_) #[true, true, true, true, true, true, false, true, false, false, false] rfl rfl (by kernel_rfl) (fun _ _ _ h => h) (Or.inl ⟨by rfl, ?_⟩) ?_ ?_
        rotate_left
        · intro w'
          go_simp
          with_reducible rfl
        rotate_left
        · simp only [Act.put, List.setIfInBounds_toArray, List.set_cons_zero, List.set_cons_succ, i64_w, i32_w]
          rfl
        refine pure_ (i := 6) (N := some 25) (v := ?_) (a' := ?_) #[true, true, true, true, true, true, true, true, false, false, false] rfl rfl (by kernel_rfl) (fun _ _ _ h => h) (Or.inl ⟨by rfl, ?_⟩) ?_ ?_
        rotate_left
        · intro w'
          go_simp
          with_reducible rfl
        rotate_left
        · simp only [Act.put, List.setIfInBounds_toArray, List.set_cons_zero, List.set_cons_succ, i64_w, i32_w]
          rfl
        refine one_ (i := 8) (N := some 27) #[true, true, true, true, true, true, true, true, true, false, false] rfl rfl (by kernel_rfl) (by decide) (fun K hK => ?_)
        refine goesC_ Tryz.func100 (by kernel_rfl) rfl #[.pointer (some ⟨b, 0, none⟩)] #[.int .i64 1, .pointer (some ⟨b, 0, none⟩)] (by rfl) rfl rfl (by rfl) (by simp only [List.map_toArray, List.map_cons, List.map_nil, List.append_toArray, List.cons_append, List.nil_append]; rfl) ?_
        refine (ih x _ A c b 1 1 rfl (by omega) HX.out HT.out HZ1.out (HG.out.below HB1.out) HL.out (Kd.C_below HC.out HB1.out) ((HB1.out).block b hlt ▸ BK.out)).mono ?_
        rintro e2 w2 ⟨rfl, hb⟩
        have HB2 := Aside0.mk (below_step HB1.out hb)
        refine ⟨_, rfl, ?_⟩
        clear hb
        have z2 := pw_cell_below HB2.out cc0
        refine hK.out _ _ ⟨z2, HB2.out⟩ (fun hHeld => ?_)
        clear hK K z2
        refine norm_ (a' := ?_) ?_ ?_
        rotate_left
        · show Act.put _ (some 27) _ = _
          simp only [Act.put, List.setIfInBounds_toArray, List.set_cons_zero, List.set_cons_succ, i64_w, i32_w]
          rfl
        refine pure_ (i := 9) (N := some 28) (v := ?_) (a' := ?_) #[true, true, true, true, true, true, true, true, true, true, false] rfl rfl (by kernel_rfl) (fun _ _ _ h => h) (Or.inl ⟨by rfl, ?_⟩) ?_ ?_
        rotate_left
        · intro w'
          go_simp
          with_reducible rfl
        rotate_left
        · simp only [Act.put, List.setIfInBounds_toArray, List.set_cons_zero, List.set_cons_succ, i64_w, i32_w]
          rfl
        refine pure_ (i := 10) (N := some 2) (v := ?_) (a' := ?_) #[true, true, true, true, true, true, true, true, true, true, true] rfl rfl (by kernel_rfl) (fun _ _ _ h => h) (Or.inl ⟨by rfl, ?_⟩) ?_ ?_
        rotate_left
        · intro w'
          go_simp
          with_reducible rfl
        rotate_left
        · simp only [Act.put, List.setIfInBounds_toArray, List.set_cons_zero, List.set_cons_succ, i64_w, i32_w]
          rfl
        refine done_ (by kernel_rfl) ?_
        go_wp2
        go_ret
        exact ⟨by rw [HT0.out]; rfl, below_step HB.out HB2.out⟩
      · skip
        by_cases c3 : x.f0.toList = [97, 110, 100]
        · have f00 : (x.f0.toList == [118, 97, 108]) = false := beq_eq_false_iff_ne.mpr c0
          have f10 : (x.f0.toList == [99, 111, 108]) = false := beq_eq_false_iff_ne.mpr c1
          have f20 : (x.f0.toList == [111, 114]) = false := beq_eq_false_iff_ne.mpr c2
          have f31 : (x.f0.toList == [97, 110, 100]) = true := beq_iff_eq.mpr c3
          have e0 := txt_eq x
          unfold txtB at e0
          rw [if_neg c0, if_neg c1, if_neg c2, if_pos c3] at e0
          simp only [← inn_def] at e0
          clear c0 c1 c2 c3
          have hz : (inn x.f3 0).size + 1 + x.f0.size + 1 + (inn x.f3 1).size ≤ 1000000000 := by
            have h1 := HZ.out
            rw [e0] at h1
            simp only [ByteArray.size_append, (show (⟨#[32]⟩ : ByteArray).size = 1 from rfl), (show (⟨#[110, 111, 116, 32]⟩ : ByteArray).size = 4 from rfl), (show (⟨#[45]⟩ : ByteArray).size = 1 from rfl), (show (⟨#[32, 105, 115, 32, 110, 117, 108, 108]⟩ : ByteArray).size = 8 from rfl)] at h1
            exact h1
          have HZ0 := Aside0.mk (show (inn x.f3 0).size ≤ 1000000000 by omega)
          have HZ1 := Aside0.mk (show (inn x.f3 1).size ≤ 1000000000 by omega)
          have t0 : (9223372036854775807 < (inn x.f3 0).size + 1) = False := eq_false (by omega)
          have t1 : (9223372036854775807 < (inn x.f3 0).size + 1 + x.f0.size) = False := eq_false (by omega)
          have t2 : (9223372036854775807 < (inn x.f3 0).size + 1 + x.f0.size + 1) = False := eq_false (by omega)
          have t3 : (9223372036854775807 < (inn x.f3 0).size + 1 + x.f0.size + 1 + (inn x.f3 1).size) = False := eq_false (by omega)
          have HT0 := Aside0.mk e0
          clear e0
          go_upto_region 9 with (fail)
          refine start_ (n := 11) (S := fun w' => w'.cell? ⟨b, 0, none⟩ = some (.string x.f0) ∧ Below W.heap.size W w') (ds := []) #[false, false, false, false, false, false, false, false, false, false, false] (by kernel_rfl) rfl rfl ⟨cc0, below_drew1 (Below.refl _ _)⟩ (fun hHeld => ?_)
          refine pure_ (i := 0) (N := some 19) (v := ?_) (a' := ?_) #[true, false, false, false, false, false, false, false, false, false, false] rfl rfl (by kernel_rfl) (fun _ _ _ h => h) (Or.inl ⟨by rfl, ?_⟩) ?_ ?_
          rotate_left
          · intro w'
            go_simp
            with_reducible rfl
          rotate_left
          · simp only [Act.put, List.setIfInBounds_toArray, List.set_cons_zero, List.set_cons_succ, i64_w, i32_w]
            rfl
          refine pure_ (i := 7) (N := some 26) (v := ?_) (a' := ?_) #[true, false, false, false, false, false, false, true, false, false, false] rfl rfl (by kernel_rfl) (fun _ _ _ h => h) (Or.inl ⟨by rfl, ?_⟩) ?_ ?_
          rotate_left
          · intro w'
            go_simp
            with_reducible rfl
          rotate_left
          · simp only [Act.put, List.setIfInBounds_toArray, List.set_cons_zero, List.set_cons_succ, i64_w, i32_w]
            rfl
          refine pure_ (i := 3) (N := some 22) (v := ?_) (a' := ?_) #[true, false, false, true, false, false, false, true, false, false, false] rfl rfl (by kernel_rfl) (fun _ _ _ h => h) (Or.inl ⟨by rfl, ?_⟩) ?_ ?_
          rotate_left
          · intro w'
            go_simp
            with_reducible rfl
          rotate_left
          · simp only [Act.put, List.setIfInBounds_toArray, List.set_cons_zero, List.set_cons_succ, i64_w, i32_w]
            rfl
          refine take_ (i := 4) (N := some 23) (v := ?_) (a' := ?_) #[true, false, false, true, true, false, false, true, false, false, false] rfl rfl (by kernel_rfl) (fun _ _ _ h => h) (Or.inl ⟨by rfl, ?_⟩) hHeld ?_ ?_
          rotate_left
          · rintro w' ⟨s0, _⟩
            go_simp
            with_reducible rfl
          rotate_left
          · simp only [Act.put, List.setIfInBounds_toArray, List.set_cons_zero, List.set_cons_succ, i64_w, i32_w]
            rfl
          refine one_ (i := 1) (N := some 20) #[true, true, false, true, true, false, false, true, false, false, false] rfl rfl (by kernel_rfl) (by decide) (fun K hK => ?_)
          refine goesC_ Tryz.func100 (by kernel_rfl) rfl #[.pointer (some ⟨b, 0, none⟩)] #[.int .i64 0, .pointer (some ⟨b, 0, none⟩)] (by rfl) rfl rfl (by rfl) (by simp only [List.map_toArray, List.map_cons, List.map_nil, List.append_toArray, List.cons_append, List.nil_append]; rfl) ?_
          refine (ih x _ A c b 0 0 rfl (by omega) HX.out HT.out HZ0.out (HG.out.below (below_drew1 (Below.refl W.heap.size W))) HL.out (Kd.C_below HC.out (below_drew1 (Below.refl W.heap.size W))) (((below_drew1 (Below.refl W.heap.size W))).block b hlt ▸ BK.out)).mono ?_
          rintro e1 w1 ⟨rfl, hb⟩
          have HB1 := Aside0.mk (below_step (below_drew1 (Below.refl W.heap.size W)) hb)
          refine ⟨_, rfl, ?_⟩
          clear hb
          have z1 := pw_cell_below HB1.out cc0
          refine hK.out _ _ ⟨z1, HB1.out⟩ (fun hHeld => ?_)
          clear hK K z1
          refine norm_ (a' := ?_) ?_ ?_
          rotate_left
          · show Act.put _ (some 20) _ = _
            simp only [Act.put, List.setIfInBounds_toArray, List.set_cons_zero, List.set_cons_succ, i64_w, i32_w]
            rfl
          refine pure_ (i := 2) (N := some 21) (v := ?_) (a' := ?_) #[true, true, true, true, true, false, false, true, false, false, false] rfl rfl (by kernel_rfl) (fun _ _ _ h => h) (Or.inl ⟨by rfl, ?_⟩) ?_ ?_
          rotate_left
          · intro w'
            go_simp
            with_reducible rfl
          rotate_left
          · simp only [Act.put, List.setIfInBounds_toArray, List.set_cons_zero, List.set_cons_succ, i64_w, i32_w]
            rfl
          refine pure_ (i := 5) (N := some 24) (v := ?_) (a' := ?_) #[true, true, true, true, true, true, false, true, false, false, false] rfl rfl (by kernel_rfl) (fun _ _ _ h => h) (Or.inl ⟨by rfl, ?_⟩) ?_ ?_
          rotate_left
          · intro w'
            go_simp
            with_reducible rfl
          rotate_left
          · simp only [Act.put, List.setIfInBounds_toArray, List.set_cons_zero, List.set_cons_succ, i64_w, i32_w]
            rfl
          refine pure_ (i := 6) (N := some 25) (v := ?_) (a' := ?_) #[true, true, true, true, true, true, true, true, false, false, false] rfl rfl (by kernel_rfl) (fun _ _ _ h => h) (Or.inl ⟨by rfl, ?_⟩) ?_ ?_
          rotate_left
          · intro w'
            go_simp
            with_reducible rfl
          rotate_left
          · simp only [Act.put, List.setIfInBounds_toArray, List.set_cons_zero, List.set_cons_succ, i64_w, i32_w]
            rfl
          refine one_ (i := 8) (N := some 27) #[true, true, true, true, true, true, true, true, true, false, false] rfl rfl (by kernel_rfl) (by decide) (fun K hK => ?_)
          refine goesC_ Tryz.func100 (by kernel_rfl) rfl #[.pointer (some ⟨b, 0, none⟩)] #[.int .i64 1, .pointer (some ⟨b, 0, none⟩)] (by rfl) rfl rfl (by rfl) (by simp only [List.map_toArray, List.map_cons, List.map_nil, List.append_toArray, List.cons_append, List.nil_append]; rfl) ?_
          refine (ih x _ A c b 1 1 rfl (by omega) HX.out HT.out HZ1.out (HG.out.below HB1.out) HL.out (Kd.C_below HC.out HB1.out) ((HB1.out).block b hlt ▸ BK.out)).mono ?_
          rintro e2 w2 ⟨rfl, hb⟩
          have HB2 := Aside0.mk (below_step HB1.out hb)
          refine ⟨_, rfl, ?_⟩
          clear hb
          have z2 := pw_cell_below HB2.out cc0
          refine hK.out _ _ ⟨z2, HB2.out⟩ (fun hHeld => ?_)
          clear hK K z2
          refine norm_ (a' := ?_) ?_ ?_
          rotate_left
          · show Act.put _ (some 27) _ = _
            simp only [Act.put, List.setIfInBounds_toArray, List.set_cons_zero, List.set_cons_succ, i64_w, i32_w]
            rfl
          refine pure_ (i := 9) (N := some 28) (v := ?_) (a' := ?_) #[true, true, true, true, true, true, true, true, true, true, false] rfl rfl (by kernel_rfl) (fun _ _ _ h => h) (Or.inl ⟨by rfl, ?_⟩) ?_ ?_
          rotate_left
          · intro w'
            go_simp
            with_reducible rfl
          rotate_left
          · simp only [Act.put, List.setIfInBounds_toArray, List.set_cons_zero, List.set_cons_succ, i64_w, i32_w]
            rfl
          refine pure_ (i := 10) (N := some 2) (v := ?_) (a' := ?_) #[true, true, true, true, true, true, true, true, true, true, true] rfl rfl (by kernel_rfl) (fun _ _ _ h => h) (Or.inl ⟨by rfl, ?_⟩) ?_ ?_
          rotate_left
          · intro w'
            go_simp
            with_reducible rfl
          rotate_left
          · simp only [Act.put, List.setIfInBounds_toArray, List.set_cons_zero, List.set_cons_succ, i64_w, i32_w]
            rfl
          refine done_ (by kernel_rfl) ?_
          go_wp2
          go_ret
          exact ⟨by rw [HT0.out]; rfl, below_step HB.out HB2.out⟩
        · skip
          by_cases c4 : x.f0.toList = [110, 111, 116]
          · have f00 : (x.f0.toList == [118, 97, 108]) = false := beq_eq_false_iff_ne.mpr c0
            have f10 : (x.f0.toList == [99, 111, 108]) = false := beq_eq_false_iff_ne.mpr c1
            have f20 : (x.f0.toList == [111, 114]) = false := beq_eq_false_iff_ne.mpr c2
            have f30 : (x.f0.toList == [97, 110, 100]) = false := beq_eq_false_iff_ne.mpr c3
            have f41 : (x.f0.toList == [110, 111, 116]) = true := beq_iff_eq.mpr c4
            have e0 := txt_eq x
            unfold txtB at e0
            rw [if_neg c0, if_neg c1, if_neg c2, if_neg c3, if_pos c4] at e0
            simp only [← inn_def] at e0
            clear c0 c1 c2 c3 c4
            have hz : 4 + (inn x.f3 0).size ≤ 1000000000 := by
              have h1 := HZ.out
              rw [e0] at h1
              simp only [ByteArray.size_append, (show (⟨#[32]⟩ : ByteArray).size = 1 from rfl), (show (⟨#[110, 111, 116, 32]⟩ : ByteArray).size = 4 from rfl), (show (⟨#[45]⟩ : ByteArray).size = 1 from rfl), (show (⟨#[32, 105, 115, 32, 110, 117, 108, 108]⟩ : ByteArray).size = 8 from rfl)] at h1
              exact h1
            have HZ0 := Aside0.mk (show (inn x.f3 0).size ≤ 1000000000 by omega)
            have t0 : (9223372036854775807 < 4 + (inn x.f3 0).size) = False := eq_false (by omega)
            have HT0 := Aside0.mk e0
            clear e0
            go_wp2_with (first | (go_at_call 100; refine (ih x _ A c b 0 0 rfl (by omega) HX.out HT.out HZ0.out HG.out HL.out HC.out BK.out).mono ?_; rintro e1 w1 ⟨rfl, hb⟩; have HB1 := Aside0.mk hb; clear hb))
            go_ret
            exact ⟨by rw [HT0.out]; rfl, below_step HB.out HB1.out⟩
          · skip
            by_cases c5 : x.f0.toList = [110, 101, 103]
            · have f00 : (x.f0.toList == [118, 97, 108]) = false := beq_eq_false_iff_ne.mpr c0
              have f10 : (x.f0.toList == [99, 111, 108]) = false := beq_eq_false_iff_ne.mpr c1
              have f20 : (x.f0.toList == [111, 114]) = false := beq_eq_false_iff_ne.mpr c2
              have f30 : (x.f0.toList == [97, 110, 100]) = false := beq_eq_false_iff_ne.mpr c3
              have f40 : (x.f0.toList == [110, 111, 116]) = false := beq_eq_false_iff_ne.mpr c4
              have f51 : (x.f0.toList == [110, 101, 103]) = true := beq_iff_eq.mpr c5
              have e0 := txt_eq x
              unfold txtB at e0
              rw [if_neg c0, if_neg c1, if_neg c2, if_neg c3, if_neg c4, if_pos c5] at e0
              simp only [← inn_def] at e0
              clear c0 c1 c2 c3 c4 c5
              have hz : 1 + (inn x.f3 0).size ≤ 1000000000 := by
                have h1 := HZ.out
                rw [e0] at h1
                simp only [ByteArray.size_append, (show (⟨#[32]⟩ : ByteArray).size = 1 from rfl), (show (⟨#[110, 111, 116, 32]⟩ : ByteArray).size = 4 from rfl), (show (⟨#[45]⟩ : ByteArray).size = 1 from rfl), (show (⟨#[32, 105, 115, 32, 110, 117, 108, 108]⟩ : ByteArray).size = 8 from rfl)] at h1
                exact h1
              have HZ0 := Aside0.mk (show (inn x.f3 0).size ≤ 1000000000 by omega)
              have t0 : (9223372036854775807 < 1 + (inn x.f3 0).size) = False := eq_false (by omega)
              have HT0 := Aside0.mk e0
              clear e0
              go_wp2_with (first | (go_at_call 100; refine (ih x _ A c b 0 0 rfl (by omega) HX.out HT.out HZ0.out HG.out HL.out HC.out BK.out).mono ?_; rintro e1 w1 ⟨rfl, hb⟩; have HB1 := Aside0.mk hb; clear hb))
              go_ret
              exact ⟨by rw [HT0.out]; rfl, below_step HB.out HB1.out⟩
            · skip
              by_cases c6 : x.f0.toList = [105, 115, 110, 117, 108, 108]
              · have f00 : (x.f0.toList == [118, 97, 108]) = false := beq_eq_false_iff_ne.mpr c0
                have f10 : (x.f0.toList == [99, 111, 108]) = false := beq_eq_false_iff_ne.mpr c1
                have f20 : (x.f0.toList == [111, 114]) = false := beq_eq_false_iff_ne.mpr c2
                have f30 : (x.f0.toList == [97, 110, 100]) = false := beq_eq_false_iff_ne.mpr c3
                have f40 : (x.f0.toList == [110, 111, 116]) = false := beq_eq_false_iff_ne.mpr c4
                have f50 : (x.f0.toList == [110, 101, 103]) = false := beq_eq_false_iff_ne.mpr c5
                have f61 : (x.f0.toList == [105, 115, 110, 117, 108, 108]) = true := beq_iff_eq.mpr c6
                have e0 := txt_eq x
                unfold txtB at e0
                rw [if_neg c0, if_neg c1, if_neg c2, if_neg c3, if_neg c4, if_neg c5, if_pos c6] at e0
                simp only [← inn_def] at e0
                clear c0 c1 c2 c3 c4 c5 c6
                have hz : (inn x.f3 0).size + 8 ≤ 1000000000 := by
                  have h1 := HZ.out
                  rw [e0] at h1
                  simp only [ByteArray.size_append, (show (⟨#[32]⟩ : ByteArray).size = 1 from rfl), (show (⟨#[110, 111, 116, 32]⟩ : ByteArray).size = 4 from rfl), (show (⟨#[45]⟩ : ByteArray).size = 1 from rfl), (show (⟨#[32, 105, 115, 32, 110, 117, 108, 108]⟩ : ByteArray).size = 8 from rfl)] at h1
                  exact h1
                have HZ0 := Aside0.mk (show (inn x.f3 0).size ≤ 1000000000 by omega)
                have t0 : (9223372036854775807 < (inn x.f3 0).size + 8) = False := eq_false (by omega)
                have HT0 := Aside0.mk e0
                clear e0
                go_wp2_with (first | (go_at_call 100; refine (ih x _ A c b 0 0 rfl (by omega) HX.out HT.out HZ0.out HG.out HL.out HC.out BK.out).mono ?_; rintro e1 w1 ⟨rfl, hb⟩; have HB1 := Aside0.mk hb; clear hb))
                go_ret
                exact ⟨by rw [HT0.out]; rfl, below_step HB.out HB1.out⟩
              · skip
                by_cases c7 : x.f0.toList = [99, 111, 117, 110, 116]
                · have f00 : (x.f0.toList == [118, 97, 108]) = false := beq_eq_false_iff_ne.mpr c0
                  have f10 : (x.f0.toList == [99, 111, 108]) = false := beq_eq_false_iff_ne.mpr c1
                  have f20 : (x.f0.toList == [111, 114]) = false := beq_eq_false_iff_ne.mpr c2
                  have f30 : (x.f0.toList == [97, 110, 100]) = false := beq_eq_false_iff_ne.mpr c3
                  have f40 : (x.f0.toList == [110, 111, 116]) = false := beq_eq_false_iff_ne.mpr c4
                  have f50 : (x.f0.toList == [110, 101, 103]) = false := beq_eq_false_iff_ne.mpr c5
                  have f60 : (x.f0.toList == [105, 115, 110, 117, 108, 108]) = false := beq_eq_false_iff_ne.mpr c6
                  have f71 : (x.f0.toList == [99, 111, 117, 110, 116]) = true := beq_iff_eq.mpr c7
                  have e0 := txt_eq x
                  unfold txtB at e0
                  rw [if_neg c0, if_neg c1, if_neg c2, if_neg c3, if_neg c4, if_neg c5, if_neg c6, if_pos c7] at e0
                  clear c0 c1 c2 c3 c4 c5 c6 c7
                  have HT0 := Aside0.mk e0
                  clear e0
                  go_wp2
                  go_ret
                  exact ⟨by rw [HT0.out]; rfl, HB.out⟩
                · skip
                  by_cases c8 : x.f0.toList = [115, 117, 109]
                  · have f00 : (x.f0.toList == [118, 97, 108]) = false := beq_eq_false_iff_ne.mpr c0
                    have f10 : (x.f0.toList == [99, 111, 108]) = false := beq_eq_false_iff_ne.mpr c1
                    have f20 : (x.f0.toList == [111, 114]) = false := beq_eq_false_iff_ne.mpr c2
                    have f30 : (x.f0.toList == [97, 110, 100]) = false := beq_eq_false_iff_ne.mpr c3
                    have f40 : (x.f0.toList == [110, 111, 116]) = false := beq_eq_false_iff_ne.mpr c4
                    have f50 : (x.f0.toList == [110, 101, 103]) = false := beq_eq_false_iff_ne.mpr c5
                    have f60 : (x.f0.toList == [105, 115, 110, 117, 108, 108]) = false := beq_eq_false_iff_ne.mpr c6
                    have f70 : (x.f0.toList == [99, 111, 117, 110, 116]) = false := beq_eq_false_iff_ne.mpr c7
                    have f81 : (x.f0.toList == [115, 117, 109]) = true := beq_iff_eq.mpr c8
                    have e0 := txt_eq x
                    unfold txtB at e0
                    rw [if_neg c0, if_neg c1, if_neg c2, if_neg c3, if_neg c4, if_neg c5, if_neg c6, if_neg c7, if_pos c8] at e0
                    simp only [← inn_def] at e0
                    clear c0 c1 c2 c3 c4 c5 c6 c7 c8
                    have hz : x.f0.size + (inn x.f3 0).size ≤ 1000000000 := by
                      have h1 := HZ.out
                      rw [e0] at h1
                      simp only [ByteArray.size_append, (show (⟨#[32]⟩ : ByteArray).size = 1 from rfl), (show (⟨#[110, 111, 116, 32]⟩ : ByteArray).size = 4 from rfl), (show (⟨#[45]⟩ : ByteArray).size = 1 from rfl), (show (⟨#[32, 105, 115, 32, 110, 117, 108, 108]⟩ : ByteArray).size = 8 from rfl)] at h1
                      exact h1
                    have HZ0 := Aside0.mk (show (inn x.f3 0).size ≤ 1000000000 by omega)
                    have t0 : (9223372036854775807 < x.f0.size + (inn x.f3 0).size) = False := eq_false (by omega)
                    have HT0 := Aside0.mk e0
                    clear e0
                    go_upto_region 21 with (fail)
                    refine start_ (n := 6) (S := fun w' => w'.cell? ⟨b, 0, none⟩ = some (.string x.f0) ∧ Below W.heap.size W w') (ds := []) #[false, false, false, false, false, false] (by kernel_rfl) rfl rfl ⟨cc0, below_drew1 (Below.refl _ _)⟩ (fun hHeld => ?_)
                    refine pure_ (i := 0) (N := some 50) (v := ?_) (a' := ?_) #[true, false, false, false, false, false] rfl rfl (by kernel_rfl) (fun _ _ _ h => h) (Or.inl ⟨by rfl, ?_⟩) ?_ ?_
                    rotate_left
                    · intro w'
                      go_simp
                      with_reducible rfl
                    rotate_left
                    · simp only [Act.put, List.setIfInBounds_toArray, List.set_cons_zero, List.set_cons_succ, i64_w, i32_w]
                      rfl
                    refine pure_ (i := 2) (N := some 52) (v := ?_) (a' := ?_) #[true, false, true, false, false, false] rfl rfl (by kernel_rfl) (fun _ _ _ h => h) (Or.inl ⟨by rfl, ?_⟩) ?_ ?_
                    rotate_left
                    · intro w'
                      go_simp
                      with_reducible rfl
                    rotate_left
                    · simp only [Act.put, List.setIfInBounds_toArray, List.set_cons_zero, List.set_cons_succ, i64_w, i32_w]
                      rfl
                    refine take_ (i := 1) (N := some 51) (v := ?_) (a' := ?_) #[true, true, true, false, false, false] rfl rfl (by kernel_rfl) (fun _ _ _ h => h) (Or.inl ⟨by rfl, ?_⟩) hHeld ?_ ?_
                    rotate_left
                    · rintro w' ⟨s0, _⟩
                      go_simp
                      with_reducible rfl
                    rotate_left
                    · simp only [Act.put, List.setIfInBounds_toArray, List.set_cons_zero, List.set_cons_succ, i64_w, i32_w]
                      rfl
                    refine one_ (i := 3) (N := some 53) #[true, true, true, true, false, false] rfl rfl (by kernel_rfl) (by decide) (fun K hK => ?_)
                    refine goesC_ Tryz.func100 (by kernel_rfl) rfl #[.pointer (some ⟨b, 0, none⟩)] #[.int .i64 0, .pointer (some ⟨b, 0, none⟩)] (by rfl) rfl rfl (by rfl) (by simp only [List.map_toArray, List.map_cons, List.map_nil, List.append_toArray, List.cons_append, List.nil_append]; rfl) ?_
                    refine (ih x _ A c b 0 0 rfl (by omega) HX.out HT.out HZ0.out (HG.out.below (below_drew1 (Below.refl W.heap.size W))) HL.out (Kd.C_below HC.out (below_drew1 (Below.refl W.heap.size W))) (((below_drew1 (Below.refl W.heap.size W))).block b hlt ▸ BK.out)).mono ?_
                    rintro e1 w1 ⟨rfl, hb⟩
                    have HB1 := Aside0.mk (below_step (below_drew1 (Below.refl W.heap.size W)) hb)
                    refine ⟨_, rfl, ?_⟩
                    clear hb
                    have z1 := pw_cell_below HB1.out cc0
                    refine hK.out _ _ ⟨z1, HB1.out⟩ (fun hHeld => ?_)
                    clear hK K z1
                    refine norm_ (a' := ?_) ?_ ?_
                    rotate_left
                    · show Act.put _ (some 53) _ = _
                      simp only [Act.put, List.setIfInBounds_toArray, List.set_cons_zero, List.set_cons_succ, i64_w, i32_w]
                      rfl
                    refine pure_ (i := 4) (N := some 54) (v := ?_) (a' := ?_) #[true, true, true, true, true, false] rfl rfl (by kernel_rfl) (fun _ _ _ h => h) (Or.inl ⟨by rfl, ?_⟩) ?_ ?_
                    rotate_left
                    · intro w'
                      go_simp
                      with_reducible rfl
                    rotate_left
                    · simp only [Act.put, List.setIfInBounds_toArray, List.set_cons_zero, List.set_cons_succ, i64_w, i32_w]
                      rfl
                    refine pure_ (i := 5) (N := some 2) (v := ?_) (a' := ?_) #[true, true, true, true, true, true] rfl rfl (by kernel_rfl) (fun _ _ _ h => h) (Or.inl ⟨by rfl, ?_⟩) ?_ ?_
                    rotate_left
                    · intro w'
                      go_simp
                      with_reducible rfl
                    rotate_left
                    · simp only [Act.put, List.setIfInBounds_toArray, List.set_cons_zero, List.set_cons_succ, i64_w, i32_w]
                      rfl
                    refine done_ (by kernel_rfl) ?_
                    go_wp2
                    go_ret
                    exact ⟨by rw [HT0.out]; rfl, below_step HB.out HB1.out⟩
                  · skip
                    by_cases c9 : x.f0.toList = [109, 105, 110]
                    · have f00 : (x.f0.toList == [118, 97, 108]) = false := beq_eq_false_iff_ne.mpr c0
                      have f10 : (x.f0.toList == [99, 111, 108]) = false := beq_eq_false_iff_ne.mpr c1
                      have f20 : (x.f0.toList == [111, 114]) = false := beq_eq_false_iff_ne.mpr c2
                      have f30 : (x.f0.toList == [97, 110, 100]) = false := beq_eq_false_iff_ne.mpr c3
                      have f40 : (x.f0.toList == [110, 111, 116]) = false := beq_eq_false_iff_ne.mpr c4
                      have f50 : (x.f0.toList == [110, 101, 103]) = false := beq_eq_false_iff_ne.mpr c5
                      have f60 : (x.f0.toList == [105, 115, 110, 117, 108, 108]) = false := beq_eq_false_iff_ne.mpr c6
                      have f70 : (x.f0.toList == [99, 111, 117, 110, 116]) = false := beq_eq_false_iff_ne.mpr c7
                      have f80 : (x.f0.toList == [115, 117, 109]) = false := beq_eq_false_iff_ne.mpr c8
                      have f91 : (x.f0.toList == [109, 105, 110]) = true := beq_iff_eq.mpr c9
                      have e0 := txt_eq x
                      unfold txtB at e0
                      rw [if_neg c0, if_neg c1, if_neg c2, if_neg c3, if_neg c4, if_neg c5, if_neg c6, if_neg c7, if_neg c8, if_pos c9] at e0
                      simp only [← inn_def] at e0
                      clear c0 c1 c2 c3 c4 c5 c6 c7 c8 c9
                      have hz : x.f0.size + (inn x.f3 0).size ≤ 1000000000 := by
                        have h1 := HZ.out
                        rw [e0] at h1
                        simp only [ByteArray.size_append, (show (⟨#[32]⟩ : ByteArray).size = 1 from rfl), (show (⟨#[110, 111, 116, 32]⟩ : ByteArray).size = 4 from rfl), (show (⟨#[45]⟩ : ByteArray).size = 1 from rfl), (show (⟨#[32, 105, 115, 32, 110, 117, 108, 108]⟩ : ByteArray).size = 8 from rfl)] at h1
                        exact h1
                      have HZ0 := Aside0.mk (show (inn x.f3 0).size ≤ 1000000000 by omega)
                      have t0 : (9223372036854775807 < x.f0.size + (inn x.f3 0).size) = False := eq_false (by omega)
                      have HT0 := Aside0.mk e0
                      clear e0
                      go_upto_region 21 with (fail)
                      refine start_ (n := 6) (S := fun w' => w'.cell? ⟨b, 0, none⟩ = some (.string x.f0) ∧ Below W.heap.size W w') (ds := []) #[false, false, false, false, false, false] (by kernel_rfl) rfl rfl ⟨cc0, below_drew1 (Below.refl _ _)⟩ (fun hHeld => ?_)
                      refine pure_ (i := 0) (N := some 50) (v := ?_) (a' := ?_) #[true, false, false, false, false, false] rfl rfl (by kernel_rfl) (fun _ _ _ h => h) (Or.inl ⟨by rfl, ?_⟩) ?_ ?_
                      rotate_left
                      · intro w'
                        go_simp
                        with_reducible rfl
                      rotate_left
                      · simp only [Act.put, List.setIfInBounds_toArray, List.set_cons_zero, List.set_cons_succ, i64_w, i32_w]
                        rfl
                      refine pure_ (i := 2) (N := some 52) (v := ?_) (a' := ?_) #[true, false, true, false, false, false] rfl rfl (by kernel_rfl) (fun _ _ _ h => h) (Or.inl ⟨by rfl, ?_⟩) ?_ ?_
                      rotate_left
                      · intro w'
                        go_simp
                        with_reducible rfl
                      rotate_left
                      · simp only [Act.put, List.setIfInBounds_toArray, List.set_cons_zero, List.set_cons_succ, i64_w, i32_w]
                        rfl
                      refine take_ (i := 1) (N := some 51) (v := ?_) (a' := ?_) #[true, true, true, false, false, false] rfl rfl (by kernel_rfl) (fun _ _ _ h => h) (Or.inl ⟨by rfl, ?_⟩) hHeld ?_ ?_
                      rotate_left
                      · rintro w' ⟨s0, _⟩
                        go_simp
                        with_reducible rfl
                      rotate_left
                      · simp only [Act.put, List.setIfInBounds_toArray, List.set_cons_zero, List.set_cons_succ, i64_w, i32_w]
                        rfl
                      refine one_ (i := 3) (N := some 53) #[true, true, true, true, false, false] rfl rfl (by kernel_rfl) (by decide) (fun K hK => ?_)
                      refine goesC_ Tryz.func100 (by kernel_rfl) rfl #[.pointer (some ⟨b, 0, none⟩)] #[.int .i64 0, .pointer (some ⟨b, 0, none⟩)] (by rfl) rfl rfl (by rfl) (by simp only [List.map_toArray, List.map_cons, List.map_nil, List.append_toArray, List.cons_append, List.nil_append]; rfl) ?_
                      refine (ih x _ A c b 0 0 rfl (by omega) HX.out HT.out HZ0.out (HG.out.below (below_drew1 (Below.refl W.heap.size W))) HL.out (Kd.C_below HC.out (below_drew1 (Below.refl W.heap.size W))) (((below_drew1 (Below.refl W.heap.size W))).block b hlt ▸ BK.out)).mono ?_
                      rintro e1 w1 ⟨rfl, hb⟩
                      have HB1 := Aside0.mk (below_step (below_drew1 (Below.refl W.heap.size W)) hb)
                      refine ⟨_, rfl, ?_⟩
                      clear hb
                      have z1 := pw_cell_below HB1.out cc0
                      refine hK.out _ _ ⟨z1, HB1.out⟩ (fun hHeld => ?_)
                      clear hK K z1
                      refine norm_ (a' := ?_) ?_ ?_
                      rotate_left
                      · show Act.put _ (some 53) _ = _
                        simp only [Act.put, List.setIfInBounds_toArray, List.set_cons_zero, List.set_cons_succ, i64_w, i32_w]
                        rfl
                      refine pure_ (i := 4) (N := some 54) (v := ?_) (a' := ?_) #[true, true, true, true, true, false] rfl rfl (by kernel_rfl) (fun _ _ _ h => h) (Or.inl ⟨by rfl, ?_⟩) ?_ ?_
                      rotate_left
                      · intro w'
                        go_simp
                        with_reducible rfl
                      rotate_left
                      · simp only [Act.put, List.setIfInBounds_toArray, List.set_cons_zero, List.set_cons_succ, i64_w, i32_w]
                        rfl
                      refine pure_ (i := 5) (N := some 2) (v := ?_) (a' := ?_) #[true, true, true, true, true, true] rfl rfl (by kernel_rfl) (fun _ _ _ h => h) (Or.inl ⟨by rfl, ?_⟩) ?_ ?_
                      rotate_left
                      · intro w'
                        go_simp
                        with_reducible rfl
                      rotate_left
                      · simp only [Act.put, List.setIfInBounds_toArray, List.set_cons_zero, List.set_cons_succ, i64_w, i32_w]
                        rfl
                      refine done_ (by kernel_rfl) ?_
                      go_wp2
                      go_ret
                      exact ⟨by rw [HT0.out]; rfl, below_step HB.out HB1.out⟩
                    · skip
                      by_cases c10 : x.f0.toList = [109, 97, 120]
                      · have f00 : (x.f0.toList == [118, 97, 108]) = false := beq_eq_false_iff_ne.mpr c0
                        have f10 : (x.f0.toList == [99, 111, 108]) = false := beq_eq_false_iff_ne.mpr c1
                        have f20 : (x.f0.toList == [111, 114]) = false := beq_eq_false_iff_ne.mpr c2
                        have f30 : (x.f0.toList == [97, 110, 100]) = false := beq_eq_false_iff_ne.mpr c3
                        have f40 : (x.f0.toList == [110, 111, 116]) = false := beq_eq_false_iff_ne.mpr c4
                        have f50 : (x.f0.toList == [110, 101, 103]) = false := beq_eq_false_iff_ne.mpr c5
                        have f60 : (x.f0.toList == [105, 115, 110, 117, 108, 108]) = false := beq_eq_false_iff_ne.mpr c6
                        have f70 : (x.f0.toList == [99, 111, 117, 110, 116]) = false := beq_eq_false_iff_ne.mpr c7
                        have f80 : (x.f0.toList == [115, 117, 109]) = false := beq_eq_false_iff_ne.mpr c8
                        have f90 : (x.f0.toList == [109, 105, 110]) = false := beq_eq_false_iff_ne.mpr c9
                        have f101 : (x.f0.toList == [109, 97, 120]) = true := beq_iff_eq.mpr c10
                        have e0 := txt_eq x
                        unfold txtB at e0
                        rw [if_neg c0, if_neg c1, if_neg c2, if_neg c3, if_neg c4, if_neg c5, if_neg c6, if_neg c7, if_neg c8, if_neg c9, if_pos c10] at e0
                        simp only [← inn_def] at e0
                        clear c0 c1 c2 c3 c4 c5 c6 c7 c8 c9 c10
                        have hz : x.f0.size + (inn x.f3 0).size ≤ 1000000000 := by
                          have h1 := HZ.out
                          rw [e0] at h1
                          simp only [ByteArray.size_append, (show (⟨#[32]⟩ : ByteArray).size = 1 from rfl), (show (⟨#[110, 111, 116, 32]⟩ : ByteArray).size = 4 from rfl), (show (⟨#[45]⟩ : ByteArray).size = 1 from rfl), (show (⟨#[32, 105, 115, 32, 110, 117, 108, 108]⟩ : ByteArray).size = 8 from rfl)] at h1
                          exact h1
                        have HZ0 := Aside0.mk (show (inn x.f3 0).size ≤ 1000000000 by omega)
                        have t0 : (9223372036854775807 < x.f0.size + (inn x.f3 0).size) = False := eq_false (by omega)
                        have HT0 := Aside0.mk e0
                        clear e0
                        go_upto_region 21 with (fail)
                        refine start_ (n := 6) (S := fun w' => w'.cell? ⟨b, 0, none⟩ = some (.string x.f0) ∧ Below W.heap.size W w') (ds := []) #[false, false, false, false, false, false] (by kernel_rfl) rfl rfl ⟨cc0, below_drew1 (Below.refl _ _)⟩ (fun hHeld => ?_)
                        refine pure_ (i := 0) (N := some 50) (v := ?_) (a' := ?_) #[true, false, false, false, false, false] rfl rfl (by kernel_rfl) (fun _ _ _ h => h) (Or.inl ⟨by rfl, ?_⟩) ?_ ?_
                        rotate_left
                        · intro w'
                          go_simp
                          with_reducible rfl
                        rotate_left
                        · simp only [Act.put, List.setIfInBounds_toArray, List.set_cons_zero, List.set_cons_succ, i64_w, i32_w]
                          rfl
                        refine pure_ (i := 2) (N := some 52) (v := ?_) (a' := ?_) #[true, false, true, false, false, false] rfl rfl (by kernel_rfl) (fun _ _ _ h => h) (Or.inl ⟨by rfl, ?_⟩) ?_ ?_
                        rotate_left
                        · intro w'
                          go_simp
                          with_reducible rfl
                        rotate_left
                        · simp only [Act.put, List.setIfInBounds_toArray, List.set_cons_zero, List.set_cons_succ, i64_w, i32_w]
                          rfl
                        refine take_ (i := 1) (N := some 51) (v := ?_) (a' := ?_) #[true, true, true, false, false, false] rfl rfl (by kernel_rfl) (fun _ _ _ h => h) (Or.inl ⟨by rfl, ?_⟩) hHeld ?_ ?_
                        rotate_left
                        · rintro w' ⟨s0, _⟩
                          go_simp
                          with_reducible rfl
                        rotate_left
                        · simp only [Act.put, List.setIfInBounds_toArray, List.set_cons_zero, List.set_cons_succ, i64_w, i32_w]
                          rfl
                        refine one_ (i := 3) (N := some 53) #[true, true, true, true, false, false] rfl rfl (by kernel_rfl) (by decide) (fun K hK => ?_)
                        refine goesC_ Tryz.func100 (by kernel_rfl) rfl #[.pointer (some ⟨b, 0, none⟩)] #[.int .i64 0, .pointer (some ⟨b, 0, none⟩)] (by rfl) rfl rfl (by rfl) (by simp only [List.map_toArray, List.map_cons, List.map_nil, List.append_toArray, List.cons_append, List.nil_append]; rfl) ?_
                        refine (ih x _ A c b 0 0 rfl (by omega) HX.out HT.out HZ0.out (HG.out.below (below_drew1 (Below.refl W.heap.size W))) HL.out (Kd.C_below HC.out (below_drew1 (Below.refl W.heap.size W))) (((below_drew1 (Below.refl W.heap.size W))).block b hlt ▸ BK.out)).mono ?_
                        rintro e1 w1 ⟨rfl, hb⟩
                        have HB1 := Aside0.mk (below_step (below_drew1 (Below.refl W.heap.size W)) hb)
                        refine ⟨_, rfl, ?_⟩
                        clear hb
                        have z1 := pw_cell_below HB1.out cc0
                        refine hK.out _ _ ⟨z1, HB1.out⟩ (fun hHeld => ?_)
                        clear hK K z1
                        refine norm_ (a' := ?_) ?_ ?_
                        rotate_left
                        · show Act.put _ (some 53) _ = _
                          simp only [Act.put, List.setIfInBounds_toArray, List.set_cons_zero, List.set_cons_succ, i64_w, i32_w]
                          rfl
                        refine pure_ (i := 4) (N := some 54) (v := ?_) (a' := ?_) #[true, true, true, true, true, false] rfl rfl (by kernel_rfl) (fun _ _ _ h => h) (Or.inl ⟨by rfl, ?_⟩) ?_ ?_
                        rotate_left
                        · intro w'
                          go_simp
                          with_reducible rfl
                        rotate_left
                        · simp only [Act.put, List.setIfInBounds_toArray, List.set_cons_zero, List.set_cons_succ, i64_w, i32_w]
                          rfl
                        refine pure_ (i := 5) (N := some 2) (v := ?_) (a' := ?_) #[true, true, true, true, true, true] rfl rfl (by kernel_rfl) (fun _ _ _ h => h) (Or.inl ⟨by rfl, ?_⟩) ?_ ?_
                        rotate_left
                        · intro w'
                          go_simp
                          with_reducible rfl
                        rotate_left
                        · simp only [Act.put, List.setIfInBounds_toArray, List.set_cons_zero, List.set_cons_succ, i64_w, i32_w]
                          rfl
                        refine done_ (by kernel_rfl) ?_
                        go_wp2
                        go_ret
                        exact ⟨by rw [HT0.out]; rfl, below_step HB.out HB1.out⟩
                      · skip
                        by_cases hB : bigB x.f0 = true
                        · have g0 := bigB_true hB
                          obtain ⟨g1, g2⟩ := g0
                          have g3 : (x.f0.toList != [105, 115]) = true := by unfold bne; rw [g2]; rfl
                          have g4 : decide (3 < Ps.binds x.f0) = true := decide_eq_true g1
                          have BI := Aside0.mk (binds_is x.f0)
                          generalize Ps.binds x.f0 = bv at BI g4 g1
                          have f00 : (x.f0.toList == [118, 97, 108]) = false := beq_eq_false_iff_ne.mpr c0
                          have f10 : (x.f0.toList == [99, 111, 108]) = false := beq_eq_false_iff_ne.mpr c1
                          have f20 : (x.f0.toList == [111, 114]) = false := beq_eq_false_iff_ne.mpr c2
                          have f30 : (x.f0.toList == [97, 110, 100]) = false := beq_eq_false_iff_ne.mpr c3
                          have f40 : (x.f0.toList == [110, 111, 116]) = false := beq_eq_false_iff_ne.mpr c4
                          have f50 : (x.f0.toList == [110, 101, 103]) = false := beq_eq_false_iff_ne.mpr c5
                          have f60 : (x.f0.toList == [105, 115, 110, 117, 108, 108]) = false := beq_eq_false_iff_ne.mpr c6
                          have f70 : (x.f0.toList == [99, 111, 117, 110, 116]) = false := beq_eq_false_iff_ne.mpr c7
                          have f80 : (x.f0.toList == [115, 117, 109]) = false := beq_eq_false_iff_ne.mpr c8
                          have f90 : (x.f0.toList == [109, 105, 110]) = false := beq_eq_false_iff_ne.mpr c9
                          have f100 : (x.f0.toList == [109, 97, 120]) = false := beq_eq_false_iff_ne.mpr c10
                          have e0 := txt_eq x
                          unfold txtB at e0
                          rw [if_neg c0, if_neg c1, if_neg c2, if_neg c3, if_neg c4, if_neg c5, if_neg c6, if_neg c7, if_neg c8, if_neg c9, if_neg c10, if_pos hB] at e0
                          simp only [← inn_def] at e0
                          clear c0 c1 c2 c3 c4 c5 c6 c7 c8 c9 c10 hB
                          have hz : (inn x.f3 0).size + x.f0.size + (inn x.f3 1).size ≤ 1000000000 := by
                            have h1 := HZ.out
                            rw [e0] at h1
                            simp only [ByteArray.size_append, (show (⟨#[32]⟩ : ByteArray).size = 1 from rfl), (show (⟨#[110, 111, 116, 32]⟩ : ByteArray).size = 4 from rfl), (show (⟨#[45]⟩ : ByteArray).size = 1 from rfl), (show (⟨#[32, 105, 115, 32, 110, 117, 108, 108]⟩ : ByteArray).size = 8 from rfl)] at h1
                            exact h1
                          have HZ0 := Aside0.mk (show (inn x.f3 0).size ≤ 1000000000 by omega)
                          have HZ1 := Aside0.mk (show (inn x.f3 1).size ≤ 1000000000 by omega)
                          have t0 : (9223372036854775807 < (inn x.f3 0).size + x.f0.size) = False := eq_false (by omega)
                          have t1 : (9223372036854775807 < (inn x.f3 0).size + x.f0.size + (inn x.f3 1).size) = False := eq_false (by omega)
                          have HT0 := Aside0.mk e0
                          clear e0
                          go_upto_region 23 with (first | (go_at_call 102; refine (parse_binds.calls 3 _ _ _ BI.out).mono ?_; rintro e w4 ⟨rfl, ⟨nd, rfl⟩⟩))
                          refine start_ (n := 9) (S := fun w' => w'.cell? ⟨b, 0, none⟩ = some (.string x.f0) ∧ Below W.heap.size W w') (ds := []) #[false, false, false, false, false, false, false, false, false] (by kernel_rfl) rfl rfl ⟨pw_cell_below (below_drew1 (pw_below_drewN (Below.refl W.heap.size W) nd)) cc0, below_drew1 (pw_below_drewN (Below.refl _ _) nd)⟩ (fun hHeld => ?_)
                          refine pure_ (i := 0) (N := some 64) (v := ?_) (a' := ?_) #[true, false, false, false, false, false, false, false, false] rfl rfl (by kernel_rfl) (fun _ _ _ h => h) (Or.inl ⟨by rfl, ?_⟩) ?_ ?_
                          rotate_left
                          · intro w'
                            go_simp
                            with_reducible rfl
                          rotate_left
                          · simp only [Act.put, List.setIfInBounds_toArray, List.set_cons_zero, List.set_cons_succ, i64_w, i32_w]
                            rfl
                          refine pure_ (i := 5) (N := some 69) (v := ?_) (a' := ?_) #[true, false, false, false, false, true, false, false, false] rfl rfl (by kernel_rfl) (fun _ _ _ h => h) (Or.inl ⟨by rfl, ?_⟩) ?_ ?_
                          rotate_left
                          · intro w'
                            go_simp
                            with_reducible rfl
                          rotate_left
                          · simp only [Act.put, List.setIfInBounds_toArray, List.set_cons_zero, List.set_cons_succ, i64_w, i32_w]
                            rfl
                          refine pure_ (i := 2) (N := some 66) (v := ?_) (a' := ?_) #[true, false, true, false, false, true, false, false, false] rfl rfl (by kernel_rfl) (fun _ _ _ h => h) (Or.inl ⟨by rfl, ?_⟩) ?_ ?_
                          rotate_left
                          · intro w'
                            go_simp
                            with_reducible rfl
                          rotate_left
                          · simp only [Act.put, List.setIfInBounds_toArray, List.set_cons_zero, List.set_cons_succ, i64_w, i32_w]
                            rfl
                          refine take_ (i := 3) (N := some 67) (v := ?_) (a' := ?_) #[true, false, true, true, false, true, false, false, false] rfl rfl (by kernel_rfl) (fun _ _ _ h => h) (Or.inl ⟨by rfl, ?_⟩) hHeld ?_ ?_
                          rotate_left
                          · rintro w' ⟨s0, _⟩
                            go_simp
                            with_reducible rfl
                          rotate_left
                          · simp only [Act.put, List.setIfInBounds_toArray, List.set_cons_zero, List.set_cons_succ, i64_w, i32_w]
                            rfl
                          refine one_ (i := 1) (N := some 65) #[true, true, true, true, false, true, false, false, false] rfl rfl (by kernel_rfl) (by decide) (fun K hK => ?_)
                          refine goesC_ Tryz.func100 (by kernel_rfl) rfl #[.pointer (some ⟨b, 0, none⟩)] #[.int .i64 0, .pointer (some ⟨b, 0, none⟩)] (by rfl) rfl rfl (by rfl) (by simp only [List.map_toArray, List.map_cons, List.map_nil, List.append_toArray, List.cons_append, List.nil_append]; rfl) ?_
                          refine (ih x _ A c b 0 0 rfl (by omega) HX.out HT.out HZ0.out (HG.out.below (below_drew1 (pw_below_drewN (Below.refl W.heap.size W) nd))) HL.out (Kd.C_below HC.out (below_drew1 (pw_below_drewN (Below.refl W.heap.size W) nd))) (((below_drew1 (pw_below_drewN (Below.refl W.heap.size W) nd))).block b hlt ▸ BK.out)).mono ?_
                          rintro e1 w1 ⟨rfl, hb⟩
                          have HB1 := Aside0.mk (below_step (below_drew1 (pw_below_drewN (Below.refl W.heap.size W) nd)) hb)
                          refine ⟨_, rfl, ?_⟩
                          clear hb
                          have z1 := pw_cell_below HB1.out cc0
                          refine hK.out _ _ ⟨z1, HB1.out⟩ (fun hHeld => ?_)
                          clear hK K z1
                          refine norm_ (a' := ?_) ?_ ?_
                          rotate_left
                          · show Act.put _ (some 65) _ = _
                            simp only [Act.put, List.setIfInBounds_toArray, List.set_cons_zero, List.set_cons_succ, i64_w, i32_w]
                            rfl
                          refine pure_ (i := 4) (N := some 68) (v := ?_) (a' := ?_) #[true, true, true, true, true, true, false, false, false] rfl rfl (by kernel_rfl) (fun _ _ _ h => h) (Or.inl ⟨by rfl, ?_⟩) ?_ ?_
                          rotate_left
                          · intro w'
                            go_simp
                            with_reducible rfl
                          rotate_left
                          · simp only [Act.put, List.setIfInBounds_toArray, List.set_cons_zero, List.set_cons_succ, i64_w, i32_w]
                            rfl
                          refine one_ (i := 6) (N := some 70) #[true, true, true, true, true, true, true, false, false] rfl rfl (by kernel_rfl) (by decide) (fun K hK => ?_)
                          refine goesC_ Tryz.func100 (by kernel_rfl) rfl #[.pointer (some ⟨b, 0, none⟩)] #[.int .i64 1, .pointer (some ⟨b, 0, none⟩)] (by rfl) rfl rfl (by rfl) (by simp only [List.map_toArray, List.map_cons, List.map_nil, List.append_toArray, List.cons_append, List.nil_append]; rfl) ?_
                          refine (ih x _ A c b 1 1 rfl (by omega) HX.out HT.out HZ1.out (HG.out.below HB1.out) HL.out (Kd.C_below HC.out HB1.out) ((HB1.out).block b hlt ▸ BK.out)).mono ?_
                          rintro e2 w2 ⟨rfl, hb⟩
                          have HB2 := Aside0.mk (below_step HB1.out hb)
                          refine ⟨_, rfl, ?_⟩
                          clear hb
                          have z2 := pw_cell_below HB2.out cc0
                          refine hK.out _ _ ⟨z2, HB2.out⟩ (fun hHeld => ?_)
                          clear hK K z2
                          refine norm_ (a' := ?_) ?_ ?_
                          rotate_left
                          · show Act.put _ (some 70) _ = _
                            simp only [Act.put, List.setIfInBounds_toArray, List.set_cons_zero, List.set_cons_succ, i64_w, i32_w]
                            rfl
                          refine pure_ (i := 7) (N := some 71) (v := ?_) (a' := ?_) #[true, true, true, true, true, true, true, true, false] rfl rfl (by kernel_rfl) (fun _ _ _ h => h) (Or.inl ⟨by rfl, ?_⟩) ?_ ?_
                          rotate_left
                          · intro w'
                            go_simp
                            with_reducible rfl
                          rotate_left
                          · simp only [Act.put, List.setIfInBounds_toArray, List.set_cons_zero, List.set_cons_succ, i64_w, i32_w]
                            rfl
                          refine pure_ (i := 8) (N := some 2) (v := ?_) (a' := ?_) #[true, true, true, true, true, true, true, true, true] rfl rfl (by kernel_rfl) (fun _ _ _ h => h) (Or.inl ⟨by rfl, ?_⟩) ?_ ?_
                          rotate_left
                          · intro w'
                            go_simp
                            with_reducible rfl
                          rotate_left
                          · simp only [Act.put, List.setIfInBounds_toArray, List.set_cons_zero, List.set_cons_succ, i64_w, i32_w]
                            rfl
                          refine done_ (by kernel_rfl) ?_
                          go_wp2
                          go_ret
                          exact ⟨by rw [HT0.out]; rfl, below_step HB.out HB2.out⟩
                        · have g0 := bigB_false hB
                          have BI := Aside0.mk (binds_is x.f0)
                          have f00 : (x.f0.toList == [118, 97, 108]) = false := beq_eq_false_iff_ne.mpr c0
                          have f10 : (x.f0.toList == [99, 111, 108]) = false := beq_eq_false_iff_ne.mpr c1
                          have f20 : (x.f0.toList == [111, 114]) = false := beq_eq_false_iff_ne.mpr c2
                          have f30 : (x.f0.toList == [97, 110, 100]) = false := beq_eq_false_iff_ne.mpr c3
                          have f40 : (x.f0.toList == [110, 111, 116]) = false := beq_eq_false_iff_ne.mpr c4
                          have f50 : (x.f0.toList == [110, 101, 103]) = false := beq_eq_false_iff_ne.mpr c5
                          have f60 : (x.f0.toList == [105, 115, 110, 117, 108, 108]) = false := beq_eq_false_iff_ne.mpr c6
                          have f70 : (x.f0.toList == [99, 111, 117, 110, 116]) = false := beq_eq_false_iff_ne.mpr c7
                          have f80 : (x.f0.toList == [115, 117, 109]) = false := beq_eq_false_iff_ne.mpr c8
                          have f90 : (x.f0.toList == [109, 105, 110]) = false := beq_eq_false_iff_ne.mpr c9
                          have f100 : (x.f0.toList == [109, 97, 120]) = false := beq_eq_false_iff_ne.mpr c10
                          have e0 := txt_eq x
                          unfold txtB at e0
                          rw [if_neg c0, if_neg c1, if_neg c2, if_neg c3, if_neg c4, if_neg c5, if_neg c6, if_neg c7, if_neg c8, if_neg c9, if_neg c10, if_neg hB] at e0
                          clear c0 c1 c2 c3 c4 c5 c6 c7 c8 c9 c10 hB
                          have HT0 := Aside0.mk e0
                          clear e0
                          rcases g0 with g0 | g0
                          · have g4 : decide (3 < Ps.binds x.f0) = false := decide_eq_false (by omega)
                            generalize Ps.binds x.f0 = bv at BI g4 g0
                            go_wp2_with (first | (go_at_call 102; refine (parse_binds.calls 3 _ _ _ BI.out).mono ?_; rintro e w4 ⟨rfl, ⟨nd, rfl⟩⟩))
                            go_ret
                            exact ⟨by rw [HT0.out]; rfl, pw_below_drewN HB.out nd⟩
                          · have g2 : (x.f0.toList == [105, 115]) = true := g0
                            have g3 : (x.f0.toList != [105, 115]) = false := by unfold bne; rw [g2]; rfl
                            by_cases g1 : Ps.binds x.f0 > 3
                            · have g4 : decide (3 < Ps.binds x.f0) = true := decide_eq_true g1
                              generalize Ps.binds x.f0 = bv at BI g4 g1
                              go_wp2_with (first | (go_at_call 102; refine (parse_binds.calls 3 _ _ _ BI.out).mono ?_; rintro e w4 ⟨rfl, ⟨nd, rfl⟩⟩))
                              go_ret
                              exact ⟨by rw [HT0.out]; rfl, pw_below_drewN HB.out nd⟩
                            · have g4 : decide (3 < Ps.binds x.f0) = false := decide_eq_false g1
                              generalize Ps.binds x.f0 = bv at BI g4 g1
                              go_wp2_with (first | (go_at_call 102; refine (parse_binds.calls 3 _ _ _ BI.out).mono ?_; rintro e w4 ⟨rfl, ⟨nd, rfl⟩⟩))
                              go_ret
                              exact ⟨by rw [HT0.out]; rfl, pw_below_drewN HB.out nd⟩
theorem all_txtP : ∀ n, InAt n ∧ TextAt n := by
  intro n
  induction n with
  | zero =>
    refine ⟨fun x w A c b iv i _ _ h => ?_, fun x w A c h => ?_⟩
    · have := fus_pos x.f3; omega
    · have := fu_eq x; omega
  | succ n ih => exact ⟨in_step n ih.2, text_step n ih.1⟩
theorem text_out {x : S43} {w : World} {A : Option Addr} {c : Nat} (hT : TG x) (hz : (txt x).size ≤ 1000000000) (hG : GV w) (hc : x.f3.length ≤ c) (hC : Kd.C k43 w A x.f3.length x.f3) : Calls Tryz.prog 41 #[.agg (cells43 x A c).toArray] w fun e w' => e = .returned (.string (txt x)) ∧ Below w.heap.size w w' :=
  (all_txtP _).2 x w A c (Nat.le_refl _) hT hz hG hc hC
end Go.Proofs.YtcgdncpioafbdaaGreatDoor.Q
/- The laws of layer 17 are awake: a statement that a call of Parse has left in a block; awake answers true. -/
namespace Go.Proofs.YtcgdncpioafbdaaGreatDoor.Q
open Go Go.RowKit Go.Proofs.YtcgdncpioafbdaaGreatDoorW.PrintWords Go.Proofs.YtcgdncpioafbdaaGreatDoorW.PrintLast Go.Proofs.YtcgdncpioafbdaaGreatDoorW.PrintMore
def awS : ByteArray := ⟨#[115, 101, 108, 101, 99, 116, 32, 97, 32, 102, 114, 111, 109, 32, 116, 32, 119, 104, 101, 114, 101, 32, 97, 32, 43, 32, 49, 32, 42, 32, 50, 32, 61, 32, 51, 32, 108, 105, 109, 105, 116, 32, 52, 59]⟩
def awT : ByteArray := ⟨#[115, 101, 108, 101, 99, 116]⟩
theorem aw0 : (parseS awS).2 = 0 := by decide +kernel
theorem aw1 : (parseS awT).2 = 20 := by decide +kernel
theorem aw2 : (parseS awS).1.f0 = 4 := by decide +kernel
theorem aw3 : (parseS awS).1.f1.data.toList = [116] := by decide +kernel
theorem aw4 : (parseS awS).1.f10 = 4 := by decide +kernel
theorem aw5 : (parseS awS).1.f7.length = 1 := by decide +kernel
theorem aw7 : TG (rd_T43 (parseS awS).1.f7 0) := by
  exact TG_of _ (by decide +kernel)
theorem tl_data (s : ByteArray) : s.toList = s.data.toList := Lib.toList_data s
theorem aw6 : ((parseS awS).1.f7.map fun e => (txt e).data.toList) = [[40, 40, 97, 41, 43, 40, 40, 49, 41, 42, 40, 50, 41, 41, 41, 61, 40, 51, 41]] := by decide +kernel
/-- A statement in a block of its own. -/
structure Held (B : Nat) (w : World) (b : Nat) (x : S60) (a : Ads) : Prop where
  blk : w.heap[b]? = some (.cells (celA x a) 60 (0, 0))
  low : B ≤ b
  fr : StA (fun q => B ≤ q) w x a
theorem Held.below {B : Nat} {w w' : World} {b : Nat} {x : S60} {a : Ads} (h : Held B w b x a) (hb : Below w.heap.size w w') : Held B w' b x a :=
  ⟨(hb.block b (blk_lt h.blk)).trans h.blk, h.low, h.fr.below hb⟩
theorem Held.lt {B : Nat} {w : World} {b : Nat} {x : S60} {a : Ads} (h : Held B w b x a) : b < w.heap.size := blk_lt h.blk
theorem Held.new {B : Nat} {w : World} {x : S60} {a : Ads} (h : StA (fun q => B ≤ q) w x a) (hB : B ≤ w.heap.size) : Held B (w.alloc (.cells (celA x a) 60 (0, 0))) w.heap.size x a :=
  ⟨new_blk _ rfl, hB, h.below (below_alloc (Below.refl _ _) _)⟩
set_option maxHeartbeats 1000000 in
set_option maxRecDepth 100000 in
theorem store60 (w1 : World) (x : S60) (a : Ads) : Sem.run Tryz.prog (storeCells ⟨w1.heap.size, 0, none⟩ (cells60 x a.a2 a.c2 a.a4 a.c4 a.a5 a.c5 a.a6 a.c6 a.a7 a.c7)) (w1.alloc (.cells #[.int .i64 0, .string ⟨#[]⟩, .slice none 0 0, .string ⟨#[]⟩, .slice none 0 0, .slice none 0 0, .slice none 0 0, .slice none 0 0, .string ⟨#[]⟩, .bool false, .int .i64 0] 60 (0, 0))) = .ok () (w1.alloc (.cells (celA x a) 60 (0, 0))) := by
  unfold cells60 celA
  go_simp
  rfl
theorem cells60_len (x : S60) (A2 : Option Addr) (c2 : Nat) (A4 : Option Addr) (c4 : Nat) (A5 : Option Addr) (c5 : Nat) (A6 : Option Addr) (c6 : Nat) (A7 : Option Addr) (c7 : Nat) : (cells60 x A2 c2 A4 c4 A5 c5 A6 c6 A7 c7).length = 11 := rfl
attribute [local go_sem high] store60 cells60_len
set_option maxHeartbeats 1000000 in
set_option maxRecDepth 100000 in
theorem awake_calls {w : World} (hG : GV w) : Calls Tryz.prog 40 #[] w fun e w' => e = .returned (.bool true) ∧ Below w.heap.size w w' := by
  have HG := Aside0.mk hG
  clear hG
  have HB := Aside0.mk (Below.refl w.heap.size w)
  go_enter Tryz.func40, Tryz.ntmps40
  obtain ⟨x1, hx1⟩ : ∃ x, (parseS (awS)).1 = x := ⟨_, rfl⟩
  obtain ⟨c1, hc1⟩ : ∃ c, (parseS (awS)).2 = c := ⟨_, rfl⟩
  have HX1 := Aside0.mk hx1
  have E1 := Aside0.mk hc1
  have PC1 : Aside0 (∀ v : World, GV v → Calls Tryz.prog 46 #[.string (awS)] v fun e w' => ∃ a : Ads, e = .returned (.tuple #[.agg (celA x1 a), .int .i64 c1]) ∧ StA (fun q => v.heap.size ≤ q) w' x1 a ∧ Below v.heap.size v w') := ⟨by
    intro v hv
    refine (parse_calls (awS) hv).mono ?_
    rintro e w' ⟨u, rfl, ⟨a, rfl, hF⟩, hb⟩
    exact ⟨a, by rw [HX1.out, E1.out], by rw [← HX1.out]; exact hF, hb⟩⟩
  clear hx1 hc1
  go_upto_region 2 with (first | (go_at_call 46; refine (PC1.out _ HG.out).mono ?_; rintro e v1 ⟨a1, rfl, hF, hb⟩; have HF1 := Aside0.mk hF; have HV1 := Aside0.mk (below_step HB.out hb); have HW1 := Aside0.mk hb; clear hF hb))
  have HD1 := Aside0.mk (Held.new HF1.out HW1.out.size)
  have HA1 := Aside0.mk (below_alloc HV1.out (.cells (celA x1 a1) 60 (0, 0)))
  have HU1 := Aside0.mk (below_alloc HW1.out (.cells (celA x1 a1) 60 (0, 0)))
  have HG1 := Aside0.mk (HG.out.below HU1.out)
  generalize hb1 : v1.heap.size = b1 at HD1 ⊢
  generalize hW1 : v1.alloc (.cells (celA x1 a1) 60 (0, 0)) = W1 at HD1 HA1 HG1  ⊢
  clear hb1 hW1 HF1 HV1 HW1 HU1 PC1
  obtain ⟨x2, hx2⟩ : ∃ x, (parseS (awT)).1 = x := ⟨_, rfl⟩
  obtain ⟨c2, hc2⟩ : ∃ c, (parseS (awT)).2 = c := ⟨_, rfl⟩
  have HX2 := Aside0.mk hx2
  have E2 := Aside0.mk hc2
  have PC2 : Aside0 (∀ v : World, GV v → Calls Tryz.prog 46 #[.string (awT)] v fun e w' => ∃ a : Ads, e = .returned (.tuple #[.agg (celA x2 a), .int .i64 c2]) ∧ StA (fun q => v.heap.size ≤ q) w' x2 a ∧ Below v.heap.size v w') := ⟨by
    intro v hv
    refine (parse_calls (awT) hv).mono ?_
    rintro e w' ⟨u, rfl, ⟨a, rfl, hF⟩, hb⟩
    exact ⟨a, by rw [HX2.out, E2.out], by rw [← HX2.out]; exact hF, hb⟩⟩
  clear hx2 hc2
  go_upto_region 3 with (first | (go_at_call 46; refine (PC2.out _ HG1.out).mono ?_; rintro e v2 ⟨a2, rfl, hF, hb⟩; have HF2 := Aside0.mk hF; have HV2 := Aside0.mk (below_step HA1.out hb); have HW2 := Aside0.mk hb; clear hF hb))
  have HD2 := Aside0.mk (Held.new HF2.out HW2.out.size)
  have HA2 := Aside0.mk (below_alloc HV2.out (.cells (celA x2 a2) 60 (0, 0)))
  have HU2 := Aside0.mk (below_alloc HW2.out (.cells (celA x2 a2) 60 (0, 0)))
  have HD1_ := Aside0.mk (HD1.out.below HU2.out)
  clear HD1
  have HD1 := HD1_
  clear HD1_
  have HG2 := Aside0.mk (HG1.out.below HU2.out)
  generalize hb2 : v2.heap.size = b2 at HD2 ⊢
  generalize hW2 : v2.alloc (.cells (celA x2 a2) 60 (0, 0)) = W2 at HD2 HA2 HG2 HD1 ⊢
  clear hb2 hW2 HF2 HV2 HW2 HU2 PC2
  have r1c0 : W2.cell? ⟨b1, 0, none⟩ = some (.int .i64 x1.f0) := (blk_cell HD1.out.blk 0).trans rfl
  have r1c1 : W2.cell? ⟨b1, 1, none⟩ = some (.string x1.f1) := (blk_cell HD1.out.blk 1).trans rfl
  have r1c7 : W2.cell? ⟨b1, 7, none⟩ = some (.slice a1.a7 x1.f7.length a1.c7) := (blk_cell HD1.out.blk 7).trans rfl
  have r1c10 : W2.cell? ⟨b1, 10, none⟩ = some (.int .i64 x1.f10) := (blk_cell HD1.out.blk 10).trans rfl
  have r1lt := HD1.out.lt
  have y0 : c1 = 0 := by rw [← E1.out]; exact aw0
  have y1 : c2 = 20 := by rw [← E2.out]; exact aw1
  have y2 : (x1.f0 == 4) = true := by rw [← HX1.out, aw2]; decide
  have y3 : (x1.f1.toList == [116]) = true := by rw [← HX1.out, tl_data, aw3]; decide
  have y4 : (x1.f10 == 4) = true := by rw [← HX1.out, aw4]; decide
  have l7 : x1.f7.length = 1 := by rw [← HX1.out]; exact aw5
  have HC := Aside0.mk (Kd.F_now HD1.out.fr.f7)
  have p1 : (0 : Int) < (x1.f7.length : Int) := by omega
  obtain ⟨ad, A5, c5, e5, q0, q1, q2, q3, q4, q5, hl5, hi5⟩ := at_T43 HC.out 0 (by omega) p1
  have y5 : ((x1.f7.length : Int) == 1) = true := by rw [l7]; decide
  have htx : (txt (rd_T43 x1.f7 0)).data.toList = [40, 40, 97, 41, 43, 40, 40, 49, 41, 42, 40, 50, 41, 41, 41, 61, 40, 51, 41] := by
    have h := aw6
    rw [HX1.out] at h
    cases hf : x1.f7 with
    | nil => rw [hf] at l7; cases l7
    | cons z r => rw [hf] at h; simp only [List.map_cons, List.cons.injEq] at h; exact h.1
  have y6 : ((txt (rd_T43 x1.f7 0)).toList == [40, 40, 97, 41, 43, 40, 40, 49, 41, 42, 40, 50, 41, 41, 41, 61, 40, 51, 41]) = true := by rw [tl_data, htx]; decide
  have HS := Aside0.mk (show (txt (rd_T43 x1.f7 0)).size ≤ 1000000000 by rw [← len_data, htx]; decide)
  have HT := Aside0.mk (show TG (rd_T43 x1.f7 0) by rw [← HX1.out]; exact aw7)
  generalize rd_T43 x1.f7 0 = z at q0 q1 q2 q3 q4 q5 hl5 hi5 y6 HS HT
  have HL := Aside0.mk hl5
  have HI := Aside0.mk hi5
  subst y0 y1
  have p2 : (0 < x1.f7.length) = True := eq_true (by omega)
  replace p1 := eq_true p1
  simp only [Int.toNat_zero, Nat.zero_mul, addr0] at q0 q1 q2 q3 q4 q5
  clear hl5 hi5 htx l7
  rw [e5] at r1c7
  go_wp2_with (first | (go_at_call 41; refine (text_out (x := z) (A := A5) (c := c5) HT.out HS.out HG2.out HL.out HI.out).mono ?_; rintro e w3 ⟨rfl, hb⟩; have HB3 := Aside0.mk hb; clear hb))
  go_ret
  exact ⟨rfl, below_step HA2.out HB3.out⟩
end Go.Proofs.YtcgdncpioafbdaaGreatDoor.Q
/- Tokens' letters one behind the other, with or without blanks between: the lexer gives these tokens, where no letter behind a token goes on with it. -/
namespace Go.Proofs.YtcgdncpioafbdaaGreatDoor.Lx
open Go Go.Proofs.YtcgdncpioafbdaaGreatDoor.Q
end Go.Proofs.YtcgdncpioafbdaaGreatDoor.Lx
/- Plain: what Parse makes of a word where a name may stand. -/
namespace Go.Proofs.YtcgdncpioafbdaaGreatDoor.Q
open Go Go.RowKit Go.Proofs.YtcgdncpioafbdaaGreatDoorW.PrintWords
/-! ### Reserved -/
/-! ### Texts -/
end Go.Proofs.YtcgdncpioafbdaaGreatDoor.Q
/- Plain: what Parse makes of lists of 1 to 25 items, sets, values. -/
namespace Go.Proofs.YtcgdncpioafbdaaGreatDoor.Q
open Go Go.RowKit Go.Proofs.YtcgdncpioafbdaaGreatDoorW.PrintWords
def nmI (i : Nat) : ByteArray := ⟨#[UInt8.ofNat (97 + i), 95, 120]⟩
def itemsB : Nat → ByteArray
  | 0 => ⟨#[]⟩
  | j + 1 => (if j = 0 then itemsB j else itemsB j ++ (⟨#[44, 32]⟩ : ByteArray)) ++ nmI j
def setsB : Nat → ByteArray
  | 0 => ⟨#[]⟩
  | j + 1 => (if j = 0 then setsB j else setsB j ++ (⟨#[44]⟩ : ByteArray)) ++ ((nmI j ++ (⟨#[61]⟩ : ByteArray)) ++ nmI j)
def L1 (n : Nat) : ByteArray := ((⟨#[115, 101, 108, 101, 99, 116, 32]⟩ : ByteArray) ++ itemsB n) ++ (⟨#[32, 102, 114, 111, 109, 32, 116]⟩ : ByteArray)
def L2 (n : Nat) : ByteArray := (⟨#[117, 112, 100, 97, 116, 101, 32, 116, 32, 115, 101, 116, 32]⟩ : ByteArray) ++ setsB n
def L3 (n : Nat) : ByteArray := ((⟨#[105, 110, 115, 101, 114, 116, 32, 105, 110, 116, 111, 32, 116, 32, 118, 97, 108, 117, 101, 115, 32, 40]⟩ : ByteArray) ++ itemsB n) ++ (⟨#[41]⟩ : ByteArray)
theorem itemsB_size : ∀ j, (itemsB j).size ≤ 5 * j
  | 0 => by show (⟨#[]⟩ : ByteArray).size ≤ 0; decide
  | j + 1 => by
    have := itemsB_size j
    have e1 : (⟨#[44, 32]⟩ : ByteArray).size = 2 := rfl
    have e2 : (nmI j).size = 3 := rfl
    rw [itemsB, ByteArray.size_append, e2]
    split
    · omega
    · rw [ByteArray.size_append, e1]; omega
theorem setsB_size : ∀ j, (setsB j).size ≤ 8 * j
  | 0 => by show (⟨#[]⟩ : ByteArray).size ≤ 0; decide
  | j + 1 => by
    have := setsB_size j
    have e1 : (⟨#[44]⟩ : ByteArray).size = 1 := rfl
    have e3 : (⟨#[61]⟩ : ByteArray).size = 1 := rfl
    have e2 : (nmI j).size = 3 := rfl
    rw [setsB, ByteArray.size_append, ByteArray.size_append, ByteArray.size_append, e2, e3]
    split
    · omega
    · rw [ByteArray.size_append, e1]; omega
def lsB (n : Nat) : Bool :=
  if n > 20 then decide ((parseS (L1 n)).2 = 28) && decide ((parseS (L2 n)).2 = 28) && decide ((parseS (L3 n)).2 = 28)
  else decide ((parseS (L1 n)).2 = 0) && decide ((parseS (L2 n)).2 = 0) && decide ((parseS (L3 n)).2 = 0) && decide ((parseS (L1 n)).1.f5.map (fun e => e.f2.data.toList) = (List.range n).map fun i => (nmI i).data.toList) &&
    decide ((parseS (L2 n)).1.f6.map (fun e => (e.f0.data.toList, e.f1.f2.data.toList)) = (List.range n).map fun i => ((nmI i).data.toList, (nmI i).data.toList)) &&
    decide ((parseS (L3 n)).1.f4.map (fun r => r.map fun e => e.f2.data.toList) = [(List.range n).map fun i => (nmI i).data.toList])
theorem ls_all : ((List.range 25).all fun i => lsB (i + 1)) = true := by decide +kernel
theorem ls_at {n : Nat} (h1 : 1 ≤ n) (h2 : n ≤ 25) : lsB n = true := by
  have := List.all_eq_true.1 ls_all (n - 1) (List.mem_range.2 (by omega))
  rwa [show n - 1 + 1 = n by omega] at this
theorem ls_long {n : Nat} (h1 : 20 < n) (h2 : n ≤ 25) : (parseS (L1 n)).2 = 28 ∧ (parseS (L2 n)).2 = 28 ∧ (parseS (L3 n)).2 = 28 := by
  have := ls_at (by omega) h2
  unfold lsB at this
  rw [if_pos h1] at this
  simpa [and_assoc] using this
theorem map_get {α β : Type} {l : List α} {n : Nat} {f : α → β} {g : Nat → β} (h : l.map f = (List.range n).map g) (z : α) : l.length = n ∧ ∀ i, i < n → f (l.getD i z) = g i := by
  have hl : l.length = n := by simpa using congrArg List.length h
  refine ⟨hl, fun i hi => ?_⟩
  have h2 : (l.map f)[i]? = ((List.range n).map g)[i]? := by rw [h]
  rw [List.getElem?_map, List.getElem?_map, List.getElem?_range hi, List.getElem?_eq_getElem (by omega)] at h2
  simp only [Option.map_some, Option.some.injEq] at h2
  rw [List.getD_eq_getElem?_getD, List.getElem?_eq_getElem (by omega)]
  exact h2
theorem ls_short {n : Nat} (h1 : 1 ≤ n) (h2 : n ≤ 20) : ((parseS (L1 n)).2 = 0 ∧ (parseS (L2 n)).2 = 0 ∧ (parseS (L3 n)).2 = 0) ∧ ((parseS (L1 n)).1.f5.length = n ∧ ∀ i, i < n → (rd_T43 (parseS (L1 n)).1.f5 (i : Int)).f2 = nmI i) ∧
    ((parseS (L2 n)).1.f6.length = n ∧ ∀ i, i < n → (rd_T90 (parseS (L2 n)).1.f6 (i : Int)).f0 = nmI i ∧ (rd_T90 (parseS (L2 n)).1.f6 (i : Int)).f1.f2 = nmI i) ∧
    (∃ r, (parseS (L3 n)).1.f4 = [r] ∧ r.length = n ∧ ∀ i, i < n → (rd_T43 r (i : Int)).f2 = nmI i) := by
  have := ls_at h1 (by omega)
  unfold lsB at this
  rw [if_neg (by omega)] at this
  simp only [Bool.and_eq_true, decide_eq_true_eq] at this
  obtain ⟨⟨⟨⟨⟨a1, a2⟩, a3⟩, a4⟩, a5⟩, a6⟩ := this
  have dt : ∀ {s t : ByteArray}, s.data.toList = t.data.toList → s = t := fun h => ba_ext' h
  refine ⟨⟨a1, a2, a3⟩, ?_, ?_, ?_⟩
  · obtain ⟨b1, b2⟩ := map_get a4 z43
    refine ⟨b1, fun i hi => dt ?_⟩
    unfold rd_T43
    rw [Int.toNat_natCast]
    exact b2 i hi
  · obtain ⟨b1, b2⟩ := map_get a5 z90
    refine ⟨b1, fun i hi => ?_⟩
    unfold rd_T90
    rw [Int.toNat_natCast]
    have := b2 i hi
    simp only [Prod.mk.injEq] at this
    exact ⟨dt this.1, dt this.2⟩
  · generalize (parseS (L3 n)).1.f4 = m at a6
    cases m with
    | nil => simp at a6
    | cons r q =>
      simp only [List.map_cons, List.cons.injEq, List.map_eq_nil_iff] at a6
      obtain ⟨a7, rfl⟩ := a6
      obtain ⟨b1, b2⟩ := map_get a7 z43
      refine ⟨r, rfl, b1, fun i hi => dt ?_⟩
      unfold rd_T43
      rw [Int.toNat_natCast]
      exact b2 i hi
theorem nmI_walk : ∀ j : Nat, j < 26 → strOfNums [97 + (j : Int)] ++ (⟨#[95, 120]⟩ : ByteArray) = nmI j := by decide +kernel
end Go.Proofs.YtcgdncpioafbdaaGreatDoor.Q
/- ParseLists walked: true. -/
namespace Go.Proofs.YtcgdncpioafbdaaGreatDoor.Q
open Go Go.RowKit Go.Proofs.YtcgdncpioafbdaaGreatDoorW.PrintWords Go.Proofs.YtcgdncpioafbdaaGreatDoorW.PrintLast Go.Proofs.YtcgdncpioafbdaaGreatDoorW.PrintMore
attribute [local go_sem high] store60 cells60_len
set_option maxHeartbeats 4000000 in
set_option maxRecDepth 100000 in
theorem lists_calls {w : World} (m : Nat) (hm255 : m ≤ 255) (hG : GV w) : Calls Tryz.prog 12 #[.int .u8 (m : Int)] w fun e w' => e = .returned (.bool true) ∧ Below w.heap.size w w' := by
  have HG := Aside0.mk hG
  clear hG
  by_cases h1 : m < 1
  · have f0 : decide ((m : Int) < 1) = true := decide_eq_true (by omega)
    go_enter Tryz.func12, Tryz.ntmps12
    go_wp2_with (first | (go_at_call 40; refine (awake_calls HG.out).mono ?_; rintro e v ⟨rfl, hb⟩; have HBv := Aside0.mk hb; clear hb))
    go_ret
    exact ⟨rfl, HBv.out⟩
  · by_cases hm : 25 < m
    · have f0 : decide ((m : Int) < 1) = false := decide_eq_false (by omega)
      have f1 : decide (25 < (m : Int)) = true := decide_eq_true (by omega)
      go_enter Tryz.func12, Tryz.ntmps12
      go_wp2_with (first | (go_at_call 40; refine (awake_calls HG.out).mono ?_; rintro e v ⟨rfl, hb⟩; have HBv := Aside0.mk hb; clear hb))
      go_ret
      exact ⟨rfl, HBv.out⟩
    · replace hm : m ≤ 25 := by omega
      replace h1 : 1 ≤ m := by omega
      have f0 : decide ((m : Int) < 1) = false := decide_eq_false (by omega)
      have f1 : decide (25 < (m : Int)) = false := decide_eq_false (by omega)
      go_enter Tryz.func12, Tryz.ntmps12
      go_upto_region 5 with (first | (go_at_call 40; refine (awake_calls HG.out).mono ?_; rintro e v ⟨rfl, hb⟩; have HBv := Aside0.mk hb; clear hb))
      go_upto_region 7 with (fail)
      go_loopg [3, 4, 24] m (fun kq v3 v4 v24 w' => ∃ j : Nat, v3 = .string (itemsB j) ∧ v4 = .string (setsB j) ∧ v24 = .int .u8 (j : Int) ∧ Aside0 (j + kq = m) ∧ Aside0 (Below w.heap.size w w'))
      case atStart => exact ⟨0, rfl, rfl, rfl, ⟨by omega⟩, ⟨HBv.out⟩⟩
      case round =>
        obtain ⟨j, rfl, rfl, rfl, HJ, HB⟩ := hrel
        cases gk with
        | zero =>
          have hjm : j = m := by have := HJ.out; omega
          subst hjm
          have HG0 := Aside0.mk (HG.out.below HB.out)
          clear HG
          have HG := HG0
          clear HG0
          have d0 : decide ((j : Int) < (j : Int)) = false := decide_eq_false (by omega)
          have d1 : decide (j < j) = false := decide_eq_false (by omega)
          have z1 := itemsB_size j
          have z2 := setsB_size j
          by_cases hL : 20 < j
          · obtain ⟨x1, hx1⟩ : ∃ x, (parseS (L1 j)).1 = x := ⟨_, rfl⟩
            obtain ⟨c1, hc1⟩ : ∃ c, (parseS (L1 j)).2 = c := ⟨_, rfl⟩
            have HX1 := Aside0.mk hx1
            have E1 := Aside0.mk hc1
            have PC1 : Aside0 (∀ v : World, GV v → Calls Tryz.prog 46 #[.string (L1 j)] v fun e w' => ∃ a : Ads, e = .returned (.tuple #[.agg (celA x1 a), .int .i64 c1]) ∧ StA (fun q => v.heap.size ≤ q) w' x1 a ∧ Below v.heap.size v w') := ⟨by
              intro v hv
              refine (parse_calls (L1 j) hv).mono ?_
              rintro e w' ⟨u, rfl, ⟨a, rfl, hF⟩, hb⟩
              exact ⟨a, by rw [HX1.out, E1.out], by rw [← HX1.out]; exact hF, hb⟩⟩
            clear hx1 hc1
            go_upto_region 17 with (first | (go_at_call 46; refine (PC1.out _ HG.out).mono ?_; rintro e v1 ⟨a1, rfl, hF, hb⟩; have HF1 := Aside0.mk hF; have HV1 := Aside0.mk (below_step HB.out hb); have HW1 := Aside0.mk hb; clear hF hb))
            have HD1 := Aside0.mk (Held.new HF1.out HW1.out.size)
            have HA1 := Aside0.mk (below_alloc HV1.out (.cells (celA x1 a1) 60 (0, 0)))
            have HU1 := Aside0.mk (below_alloc HW1.out (.cells (celA x1 a1) 60 (0, 0)))
            have HG1 := Aside0.mk (HG.out.below HU1.out)
            generalize hb1 : v1.heap.size = b1 at HD1 ⊢
            generalize hW1 : v1.alloc (.cells (celA x1 a1) 60 (0, 0)) = W1 at HD1 HA1 HG1  ⊢
            clear hb1 hW1 HF1 HV1 HW1 HU1 PC1
            obtain ⟨x2, hx2⟩ : ∃ x, (parseS (L2 j)).1 = x := ⟨_, rfl⟩
            obtain ⟨c2, hc2⟩ : ∃ c, (parseS (L2 j)).2 = c := ⟨_, rfl⟩
            have HX2 := Aside0.mk hx2
            have E2 := Aside0.mk hc2
            have PC2 : Aside0 (∀ v : World, GV v → Calls Tryz.prog 46 #[.string (L2 j)] v fun e w' => ∃ a : Ads, e = .returned (.tuple #[.agg (celA x2 a), .int .i64 c2]) ∧ StA (fun q => v.heap.size ≤ q) w' x2 a ∧ Below v.heap.size v w') := ⟨by
              intro v hv
              refine (parse_calls (L2 j) hv).mono ?_
              rintro e w' ⟨u, rfl, ⟨a, rfl, hF⟩, hb⟩
              exact ⟨a, by rw [HX2.out, E2.out], by rw [← HX2.out]; exact hF, hb⟩⟩
            clear hx2 hc2
            go_upto_region 18 with (first | (go_at_call 46; refine (PC2.out _ HG1.out).mono ?_; rintro e v2 ⟨a2, rfl, hF, hb⟩; have HF2 := Aside0.mk hF; have HV2 := Aside0.mk (below_step HA1.out hb); have HW2 := Aside0.mk hb; clear hF hb))
            have HD2 := Aside0.mk (Held.new HF2.out HW2.out.size)
            have HA2 := Aside0.mk (below_alloc HV2.out (.cells (celA x2 a2) 60 (0, 0)))
            have HU2 := Aside0.mk (below_alloc HW2.out (.cells (celA x2 a2) 60 (0, 0)))
            have HD1_ := Aside0.mk (HD1.out.below HU2.out)
            clear HD1
            have HD1 := HD1_
            clear HD1_
            have HG2 := Aside0.mk (HG1.out.below HU2.out)
            generalize hb2 : v2.heap.size = b2 at HD2 ⊢
            generalize hW2 : v2.alloc (.cells (celA x2 a2) 60 (0, 0)) = W2 at HD2 HA2 HG2 HD1 ⊢
            clear hb2 hW2 HF2 HV2 HW2 HU2 PC2
            obtain ⟨x3, hx3⟩ : ∃ x, (parseS (L3 j)).1 = x := ⟨_, rfl⟩
            obtain ⟨c3, hc3⟩ : ∃ c, (parseS (L3 j)).2 = c := ⟨_, rfl⟩
            have HX3 := Aside0.mk hx3
            have E3 := Aside0.mk hc3
            have PC3 : Aside0 (∀ v : World, GV v → Calls Tryz.prog 46 #[.string (L3 j)] v fun e w' => ∃ a : Ads, e = .returned (.tuple #[.agg (celA x3 a), .int .i64 c3]) ∧ StA (fun q => v.heap.size ≤ q) w' x3 a ∧ Below v.heap.size v w') := ⟨by
              intro v hv
              refine (parse_calls (L3 j) hv).mono ?_
              rintro e w' ⟨u, rfl, ⟨a, rfl, hF⟩, hb⟩
              exact ⟨a, by rw [HX3.out, E3.out], by rw [← HX3.out]; exact hF, hb⟩⟩
            clear hx3 hc3
            go_upto_region 19 with (first | (go_at_call 46; refine (PC3.out _ HG2.out).mono ?_; rintro e v3 ⟨a3, rfl, hF, hb⟩; have HF3 := Aside0.mk hF; have HV3 := Aside0.mk (below_step HA2.out hb); have HW3 := Aside0.mk hb; clear hF hb))
            have HD3 := Aside0.mk (Held.new HF3.out HW3.out.size)
            have HA3 := Aside0.mk (below_alloc HV3.out (.cells (celA x3 a3) 60 (0, 0)))
            have HU3 := Aside0.mk (below_alloc HW3.out (.cells (celA x3 a3) 60 (0, 0)))
            have HD1_ := Aside0.mk (HD1.out.below HU3.out)
            clear HD1
            have HD1 := HD1_
            clear HD1_
            have HD2_ := Aside0.mk (HD2.out.below HU3.out)
            clear HD2
            have HD2 := HD2_
            clear HD2_
            have HG3 := Aside0.mk (HG2.out.below HU3.out)
            generalize hb3 : v3.heap.size = b3 at HD3 ⊢
            generalize hW3 : v3.alloc (.cells (celA x3 a3) 60 (0, 0)) = W3 at HD3 HA3 HG3 HD1 HD2 ⊢
            clear hb3 hW3 HF3 HV3 HW3 HU3 PC3
            obtain ⟨g1, g2, g3⟩ := ls_long hL hm
            have y1 : c1 = 28 := by rw [← E1.out]; exact g1
            have y2 : c2 = 28 := by rw [← E2.out]; exact g2
            have y3 : c3 = 28 := by rw [← E3.out]; exact g3
            clear g1 g2 g3
            subst y1 y2 y3
            have d2 : decide (20 < (j : Int)) = true := decide_eq_true (by omega)
            have d3 : decide (20 < j) = true := decide_eq_true hL
            go_wp2
            go_ret
            exact ⟨rfl, HA3.out⟩
          · obtain ⟨x1, hx1⟩ : ∃ x, (parseS (L1 j)).1 = x := ⟨_, rfl⟩
            obtain ⟨c1, hc1⟩ : ∃ c, (parseS (L1 j)).2 = c := ⟨_, rfl⟩
            have HX1 := Aside0.mk hx1
            have E1 := Aside0.mk hc1
            have PC1 : Aside0 (∀ v : World, GV v → Calls Tryz.prog 46 #[.string (L1 j)] v fun e w' => ∃ a : Ads, e = .returned (.tuple #[.agg (celA x1 a), .int .i64 c1]) ∧ StA (fun q => v.heap.size ≤ q) w' x1 a ∧ Below v.heap.size v w') := ⟨by
              intro v hv
              refine (parse_calls (L1 j) hv).mono ?_
              rintro e w' ⟨u, rfl, ⟨a, rfl, hF⟩, hb⟩
              exact ⟨a, by rw [HX1.out, E1.out], by rw [← HX1.out]; exact hF, hb⟩⟩
            clear hx1 hc1
            go_upto_region 17 with (first | (go_at_call 46; refine (PC1.out _ HG.out).mono ?_; rintro e v1 ⟨a1, rfl, hF, hb⟩; have HF1 := Aside0.mk hF; have HV1 := Aside0.mk (below_step HB.out hb); have HW1 := Aside0.mk hb; clear hF hb))
            have HD1 := Aside0.mk (Held.new HF1.out HW1.out.size)
            have HA1 := Aside0.mk (below_alloc HV1.out (.cells (celA x1 a1) 60 (0, 0)))
            have HU1 := Aside0.mk (below_alloc HW1.out (.cells (celA x1 a1) 60 (0, 0)))
            have HG1 := Aside0.mk (HG.out.below HU1.out)
            generalize hb1 : v1.heap.size = b1 at HD1 ⊢
            generalize hW1 : v1.alloc (.cells (celA x1 a1) 60 (0, 0)) = W1 at HD1 HA1 HG1  ⊢
            clear hb1 hW1 HF1 HV1 HW1 HU1 PC1
            obtain ⟨x2, hx2⟩ : ∃ x, (parseS (L2 j)).1 = x := ⟨_, rfl⟩
            obtain ⟨c2, hc2⟩ : ∃ c, (parseS (L2 j)).2 = c := ⟨_, rfl⟩
            have HX2 := Aside0.mk hx2
            have E2 := Aside0.mk hc2
            have PC2 : Aside0 (∀ v : World, GV v → Calls Tryz.prog 46 #[.string (L2 j)] v fun e w' => ∃ a : Ads, e = .returned (.tuple #[.agg (celA x2 a), .int .i64 c2]) ∧ StA (fun q => v.heap.size ≤ q) w' x2 a ∧ Below v.heap.size v w') := ⟨by
              intro v hv
              refine (parse_calls (L2 j) hv).mono ?_
              rintro e w' ⟨u, rfl, ⟨a, rfl, hF⟩, hb⟩
              exact ⟨a, by rw [HX2.out, E2.out], by rw [← HX2.out]; exact hF, hb⟩⟩
            clear hx2 hc2
            go_upto_region 18 with (first | (go_at_call 46; refine (PC2.out _ HG1.out).mono ?_; rintro e v2 ⟨a2, rfl, hF, hb⟩; have HF2 := Aside0.mk hF; have HV2 := Aside0.mk (below_step HA1.out hb); have HW2 := Aside0.mk hb; clear hF hb))
            have HD2 := Aside0.mk (Held.new HF2.out HW2.out.size)
            have HA2 := Aside0.mk (below_alloc HV2.out (.cells (celA x2 a2) 60 (0, 0)))
            have HU2 := Aside0.mk (below_alloc HW2.out (.cells (celA x2 a2) 60 (0, 0)))
            have HD1_ := Aside0.mk (HD1.out.below HU2.out)
            clear HD1
            have HD1 := HD1_
            clear HD1_
            have HG2 := Aside0.mk (HG1.out.below HU2.out)
            generalize hb2 : v2.heap.size = b2 at HD2 ⊢
            generalize hW2 : v2.alloc (.cells (celA x2 a2) 60 (0, 0)) = W2 at HD2 HA2 HG2 HD1 ⊢
            clear hb2 hW2 HF2 HV2 HW2 HU2 PC2
            obtain ⟨x3, hx3⟩ : ∃ x, (parseS (L3 j)).1 = x := ⟨_, rfl⟩
            obtain ⟨c3, hc3⟩ : ∃ c, (parseS (L3 j)).2 = c := ⟨_, rfl⟩
            have HX3 := Aside0.mk hx3
            have E3 := Aside0.mk hc3
            have PC3 : Aside0 (∀ v : World, GV v → Calls Tryz.prog 46 #[.string (L3 j)] v fun e w' => ∃ a : Ads, e = .returned (.tuple #[.agg (celA x3 a), .int .i64 c3]) ∧ StA (fun q => v.heap.size ≤ q) w' x3 a ∧ Below v.heap.size v w') := ⟨by
              intro v hv
              refine (parse_calls (L3 j) hv).mono ?_
              rintro e w' ⟨u, rfl, ⟨a, rfl, hF⟩, hb⟩
              exact ⟨a, by rw [HX3.out, E3.out], by rw [← HX3.out]; exact hF, hb⟩⟩
            clear hx3 hc3
            go_upto_region 19 with (first | (go_at_call 46; refine (PC3.out _ HG2.out).mono ?_; rintro e v3 ⟨a3, rfl, hF, hb⟩; have HF3 := Aside0.mk hF; have HV3 := Aside0.mk (below_step HA2.out hb); have HW3 := Aside0.mk hb; clear hF hb))
            have HD3 := Aside0.mk (Held.new HF3.out HW3.out.size)
            have HA3 := Aside0.mk (below_alloc HV3.out (.cells (celA x3 a3) 60 (0, 0)))
            have HU3 := Aside0.mk (below_alloc HW3.out (.cells (celA x3 a3) 60 (0, 0)))
            have HD1_ := Aside0.mk (HD1.out.below HU3.out)
            clear HD1
            have HD1 := HD1_
            clear HD1_
            have HD2_ := Aside0.mk (HD2.out.below HU3.out)
            clear HD2
            have HD2 := HD2_
            clear HD2_
            have HG3 := Aside0.mk (HG2.out.below HU3.out)
            generalize hb3 : v3.heap.size = b3 at HD3 ⊢
            generalize hW3 : v3.alloc (.cells (celA x3 a3) 60 (0, 0)) = W3 at HD3 HA3 HG3 HD1 HD2 ⊢
            clear hb3 hW3 HF3 HV3 HW3 HU3 PC3
            obtain ⟨⟨g1, g2, g3⟩, ⟨l5, n5⟩, ⟨l6, n6⟩, r4, e4, l4, n4⟩ := ls_short h1 (Nat.le_of_not_lt hL)
            have y1 : c1 = 0 := by rw [← E1.out]; exact g1
            have y2 : c2 = 0 := by rw [← E2.out]; exact g2
            have y3 : c3 = 0 := by rw [← E3.out]; exact g3
            rw [HX1.out] at l5 n5
            rw [HX2.out] at l6 n6
            rw [HX3.out] at e4
            clear g1 g2 g3
            subst y1 y2 y3
            have d2 : decide (20 < (j : Int)) = false := decide_eq_false (by omega)
            have d3 : decide (20 < j) = false := decide_eq_false hL
            have r1c5 : W3.cell? ⟨b1, 5, none⟩ = some (.slice a1.a5 x1.f5.length a1.c5) := (blk_cell HD1.out.blk 5).trans rfl
            have r1lt := HD1.out.lt
            have r2c6 : W3.cell? ⟨b2, 6, none⟩ = some (.slice a2.a6 x2.f6.length a2.c6) := (blk_cell HD2.out.blk 6).trans rfl
            have r2lt := HD2.out.lt
            have r3c4 : W3.cell? ⟨b3, 4, none⟩ = some (.slice a3.a4 x3.f4.length a3.c4) := (blk_cell HD3.out.blk 4).trans rfl
            have r3lt := HD3.out.lt
            have C5 := Aside0.mk (Kd.F_now HD1.out.fr.f5)
            have C6 := Aside0.mk (Kd.F_now HD2.out.fr.f6)
            have C4 := Aside0.mk (Kd.F_now HD3.out.fr.f4)
            have k5 : ((x1.f5.length : Int) != (j : Int)) = false := by rw [l5]; simp
            have k6 : ((x2.f6.length : Int) != (j : Int)) = false := by rw [l6]; simp
            have k4 : ((x3.f4.length : Int) != 1) = false := by rw [e4]; rfl
            obtain ⟨ad, A0, c0, e0, q0, lq, cq⟩ := at_P8 C4.out 0 (by omega) (by rw [e4]; simp)
            have er : rd_P8 x3.f4 0 = r4 := by rw [e4]; rfl
            rw [er] at q0 lq cq
            have p1 : ((0 : Int) < (x3.f4.length : Int)) = True := eq_true (by rw [e4]; simp)
            have p2 : (0 < x3.f4.length) = True := eq_true (by rw [e4]; simp)
            have kr : ((r4.length : Int) != (j : Int)) = false := by rw [l4]; simp
            simp only [Int.toNat_zero, addr0] at q0
            rw [e0] at r3c4
            have N5 := Aside0.mk n5
            have N6 := Aside0.mk n6
            have N4 := Aside0.mk n4
            have L5 := Aside0.mk l5
            have L6 := Aside0.mk l6
            have L4 := Aside0.mk l4
            have CQ := Aside0.mk cq
            clear n5 n6 n4 l5 l6 l4 cq er e4
            go_upto_region 24 with (fail)
            go_loopg [123] j (fun kq v123 w' => ∃ i : Nat, v123 = .int .u8 (i : Int) ∧ Aside0 (i + kq = j) ∧ Aside0 (Below W3.heap.size W3 w'))
            case atStart => exact ⟨0, rfl, ⟨by omega⟩, ⟨Below.refl _ _⟩⟩
            case round =>
              obtain ⟨i, rfl, HJ2, HB2⟩ := hrel
              cases gk with
              | zero =>
                have e0_ : decide ((i : Int) < (j : Int)) = false := decide_eq_false (by have := HJ2.out; omega)
                have e1_ : decide (i < j) = false := decide_eq_false (by have := HJ2.out; omega)
                go_wp2
                go_ret
                exact ⟨rfl, below_step HA3.out HB2.out⟩
              | succ k1 =>
                have hj_ : i < j := by have := HJ2.out; omega
                have hj2 : (i : Int) ≤ 24 := by omega
                have e0_ : decide ((i : Int) < (j : Int)) = true := decide_eq_true (by omega)
                have e1_ : decide (i < j) = true := decide_eq_true hj_
                have HJ3 := Aside0.mk (show i + 1 + k1 = j by have := HJ2.out; omega)
                have HN2 := Aside0.mk (nmI_walk i (by omega))
                obtain ⟨cn, hcn⟩ : ∃ c, nmI i = c := ⟨_, rfl⟩
                rw [hcn] at HN2
                have K5 := Aside0.mk ((N5.out i hj_).trans hcn)
                have K6 := Aside0.mk ((N6.out i hj_).1.trans hcn)
                have K7 := Aside0.mk ((N6.out i hj_).2.trans hcn)
                have K4 := Aside0.mk ((N4.out i hj_).trans hcn)
                clear hcn
                have szn : (strOfNums [97 + (i : Int)]).size = 1 := by unfold strOfNums; rfl
                go_upto_region 27 with (first | ((with_reducible refine gate_dst (N := 128) rfl ?_); refine Kd.R_lit (Kd.int .u8) _ 5 ?hg (N := 128) ?hd (xs := ([97 + (i : Int)] : List Int)) (inner := [.int .u8 (97 + (i : Int))]) (ok := fun _ => True) (okp := fun _ => True) ?hr ?hp (fun _ hk => hk) trivial (Below.refl _ _) (Nat.le_refl _) (by simp) ?_; (case hd => rfl); (case hg => rfl); (case hr => first | (go_simp; done) | (go_simp; rfl)); (case hp => exact (Reps.one (show Kd.M (Kd.int .u8) _ _ _ (97 + (i : Int)) [.int .u8 (97 + (i : Int))] from rfl) (Reps.none _ _))); intro v1 w1 ho hb hg_ hnew_; clear hg_ hnew_; have HL1 := Aside0.mk hb; have hcv := own_string (P := Tryz.prog) Tryz.underlying36 Tryz.underlying5 Tryz.underlying9 (Kd.own_of_R ho); clear ho hb))
                rw [HN2.out]
                clear hcv
                have HBX := Aside0.mk (below_step HB2.out HL1.out)
                have t1 := pw_cell_below HBX.out r1c5
                have t2 := pw_cell_below HBX.out r2c6
                have t3 := pw_cell_below HBX.out r3c4
                have t4 := pw_cell_below HBX.out q0
                have b1 : (i : Int) < (x1.f5.length : Int) := by have := L5.out; omega
                have b2 : (i : Int) < (x2.f6.length : Int) := by have := L6.out; omega
                have b3 : (i : Int) < (r4.length : Int) := by have := L4.out; omega
                obtain ⟨ad5, A5, c5, e5, u0, u1, u2, u3, u4, u5, _, _⟩ := at_T43 (Kd.C_below C5.out HBX.out) (i : Int) (by omega) b1
                obtain ⟨ad6, A6, c6, e6, s0, s1, s2, s3, s4, s5, s6, _, _⟩ := at_T90 (Kd.C_below C6.out HBX.out) (i : Int) (by omega) b2
                obtain ⟨ad7, A7, c7, e7, m0, m1, m2, m3, m4, m5, _, _⟩ := at_T43 (Kd.C_below CQ.out HBX.out) (i : Int) (by omega) b3
                rw [K5.out] at u4
                rw [K6.out] at s0
                rw [K7.out] at s5
                rw [K4.out] at m4
                rw [e5] at t1
                rw [e6] at t2
                rw [e7] at t4
                simp only [Int.toNat_natCast] at u4 s0 s5 m4
                have z1_ : (i < x1.f5.length) = True := eq_true (by omega)
                have z2_ : (i < x2.f6.length) = True := eq_true (by omega)
                have z3_ : (i < r4.length) = True := eq_true (by omega)
                have z0_ : (0 ≤ (i : Int)) = True := eq_true (by omega)
                have z4_ : ((i : Int) < 0) = False := eq_false (by omega)
                replace b1 := eq_true b1
                replace b2 := eq_true b2
                replace b3 := eq_true b3
                clear u0 u1 u2 u3 u5 s1 s2 s3 s4 s6 m0 m1 m2 m3 m5
                have s0 := s0
                go_wp2
                go_roundg k1
                case measure => first | exact Nat.lt_succ_self _ | omega
                case rel => exact ⟨i + 1, by first | rfl | (rw [Int.natCast_add]; rfl), HJ3, HBX⟩
        | succ k1 =>
          have hj : j < m := by have := HJ.out; omega
          have hj2 : (j : Int) ≤ 24 := by omega
          have d0 : decide ((j : Int) < (m : Int)) = true := decide_eq_true (by omega)
          have d1 : decide (j < m) = true := decide_eq_true hj
          have HJ1 := Aside0.mk (show j + 1 + k1 = m by have := HJ.out; omega)
          have HN := Aside0.mk (nmI_walk j (by omega))
          have z1 := itemsB_size j
          have z2 := setsB_size j
          have z3 : (nmI j).size = 3 := rfl
          by_cases h0 : j = 0
          · have g0 : decide (0 < (j : Int)) = false := decide_eq_false (by omega)
            have g1 : decide (0 < j) = false := decide_eq_false (by omega)
            have HI : Aside0 (itemsB (j + 1) = itemsB j ++ nmI j) := ⟨by rw [itemsB, if_pos h0]⟩
            have HS : Aside0 (setsB (j + 1) = setsB j ++ ((nmI j ++ (⟨#[61]⟩ : ByteArray)) ++ nmI j)) := ⟨by rw [setsB, if_pos h0]⟩
            clear h0
            go_upto_region 10 with (first | ((with_reducible refine gate_dst (N := 29) rfl ?_); refine Kd.R_lit (Kd.int .u8) _ 5 ?hg (N := 29) ?hd (xs := ([97 + (j : Int)] : List Int)) (inner := [.int .u8 (97 + (j : Int))]) (ok := fun _ => True) (okp := fun _ => True) ?hr ?hp (fun _ hk => hk) trivial (Below.refl _ _) (Nat.le_refl _) (by simp) ?_; (case hd => rfl); (case hg => rfl); (case hr => first | (go_simp; done) | (go_simp; rfl)); (case hp => exact (Reps.one (show Kd.M (Kd.int .u8) _ _ _ (97 + (j : Int)) [.int .u8 (97 + (j : Int))] from rfl) (Reps.none _ _))); intro v1 w1 ho hb hg_ hnew_; clear hg_ hnew_; have HL1 := Aside0.mk hb; have hcv := own_string (P := Tryz.prog) Tryz.underlying36 Tryz.underlying5 Tryz.underlying9 (Kd.own_of_R ho); clear ho hb))
            rw [HN.out]
            clear hcv
            go_wp2
            go_roundg k1
            case measure => first | exact Nat.lt_succ_self _ | omega
            case rel => exact ⟨j + 1, by rw [HI.out], by rw [HS.out], by first | rfl | (rw [Int.natCast_add]; rfl), HJ1, ⟨below_step HB.out HL1.out⟩⟩
          · have g0 : decide (0 < (j : Int)) = true := decide_eq_true (by omega)
            have g1 : decide (0 < j) = true := decide_eq_true (by omega)
            have HI : Aside0 (itemsB (j + 1) = (itemsB j ++ (⟨#[44, 32]⟩ : ByteArray)) ++ nmI j) := ⟨by rw [itemsB, if_neg h0]⟩
            have HS : Aside0 (setsB (j + 1) = (setsB j ++ (⟨#[44]⟩ : ByteArray)) ++ ((nmI j ++ (⟨#[61]⟩ : ByteArray)) ++ nmI j)) := ⟨by rw [setsB, if_neg h0]⟩
            clear h0
            go_upto_region 10 with (first | ((with_reducible refine gate_dst (N := 29) rfl ?_); refine Kd.R_lit (Kd.int .u8) _ 5 ?hg (N := 29) ?hd (xs := ([97 + (j : Int)] : List Int)) (inner := [.int .u8 (97 + (j : Int))]) (ok := fun _ => True) (okp := fun _ => True) ?hr ?hp (fun _ hk => hk) trivial (Below.refl _ _) (Nat.le_refl _) (by simp) ?_; (case hd => rfl); (case hg => rfl); (case hr => first | (go_simp; done) | (go_simp; rfl)); (case hp => exact (Reps.one (show Kd.M (Kd.int .u8) _ _ _ (97 + (j : Int)) [.int .u8 (97 + (j : Int))] from rfl) (Reps.none _ _))); intro v1 w1 ho hb hg_ hnew_; clear hg_ hnew_; have HL1 := Aside0.mk hb; have hcv := own_string (P := Tryz.prog) Tryz.underlying36 Tryz.underlying5 Tryz.underlying9 (Kd.own_of_R ho); clear ho hb))
            rw [HN.out]
            clear hcv
            go_wp2
            go_roundg k1
            case measure => first | exact Nat.lt_succ_self _ | omega
            case rel => exact ⟨j + 1, by rw [HI.out], by rw [HS.out], by first | rfl | (rw [Int.natCast_add]; rfl), HJ1, ⟨below_step HB.out HL1.out⟩⟩
end Go.Proofs.YtcgdncpioafbdaaGreatDoor.Q

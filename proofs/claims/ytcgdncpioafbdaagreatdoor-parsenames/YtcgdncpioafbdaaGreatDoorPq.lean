/- slices.Grow and slices.Concat, at rows of expressions. -/
import Derived.Test.YtcgdncpioafbdaaGreatDoorPp
namespace Go.Proofs.YtcgdncpioafbdaaGreatDoor.Q
open Go Go.RowKit Go.Proofs.YtcgdncpioafbdaaGreatDoorW.PrintWords

theorem N_take0 {α : Type} {d : Kd α} {e n c : Nat} {w : World} {base : Nat} {ok : Nat → Prop} {A : Option Addr} {xs : List α} (h : Kd.N d e w base ok (.slice A n c) xs) : Kd.N d e w base ok (.slice A 0 c) [] := by
  obtain ⟨h0, rows, hl, hR, hf⟩ := h
  have h1 := Kd.R_take hR (m := 0) (Nat.zero_le _)
  rw [List.take_zero] at h1
  have e1 : (Value.slice A n c).ownBlock = (Value.slice A 0 c).ownBlock := by cases A <;> rfl
  simp only [e1] at h0 h1
  exact ⟨h0, [], rfl, h1, fun j x c hx _ => by simp at hx⟩
theorem FK43z (w : World) (ok : Nat → Prop) : Kd.FK k43 w ok ⟨⟨#[]⟩, ⟨0, 0, ⟨#[]⟩⟩, ⟨#[]⟩, []⟩ ((.agg #[(.string ⟨#[]⟩), (.int .i64 0), (.int .i64 0), (.string ⟨#[]⟩), (.string ⟨#[]⟩), (.slice none 0 0)]) : Value).cells.toList := FK43 (A := none) (c := 0) (Nat.le_refl _) (Kd.F_nil _ _ _)

set_option maxHeartbeats 2000000 in
set_option maxRecDepth 100000 in
theorem grow_nil {w : World} {n : Int} (h0 : 0 ≤ n) (hn : n ≤ 1000000) : Calls Tryz.prog 272 #[.slice none 0 0, .int .i64 n] w fun e w' => ∃ v, e = .returned v ∧ Kd.N k43 43 w' w.heap.size (fun q => w.heap.size ≤ q) v [] ∧ Below w.heap.size w w' := by
  have hw : wrap64 n = n := by unfold wrap64; omega
  have b0 : decide (n < 0) = false := decide_eq_false (by omega)
  by_cases c : n = 0
  · subst c
    go_enter Tryz.func272, Tryz.ntmps272
    go_wp2
    go_ret
    exact ⟨_, rfl, Kd.N_nil _ _ _ _ _, Below.refl _ _⟩
  · have b1 : decide (0 < n) = true := decide_eq_true (by omega)
    have b2 : 0 < n := by omega
    have HO := Aside0.mk (Kd.N_nil k43 43 w w.heap.size (fun q => w.heap.size ≤ q))
    go_enter Tryz.func272, Tryz.ntmps272
    go_wp2_with (first | ((with_reducible refine gate_builtin (b := .append) (xs := #[.tmp 20, .tmp 21]) rfl ?_); at_builtin; refine Kd.N_append_zeros k43 (w0 := w) w.heap.size rfl (.tmp 20) (.tmp 21) 41 3 43 (.agg #[(.string ⟨#[]⟩), (.int .i64 0), (.int .i64 0), (.string ⟨#[]⟩), (.string ⟨#[]⟩), (.slice none 0 0)]) 88 rfl Tryz.underlying41 Tryz.underlying3 info43 rfl (by decide) (by omega) (.slice none 0 0) [] ⟨⟨#[]⟩, ⟨0, 0, ⟨#[]⟩⟩, ⟨#[]⟩, []⟩ n (fun q => w.heap.size ≤ q) rfl rfl (FK43z _ _) (fun _ h => h) HO.out h0 (Below.refl _ _) (Nat.le_refl _) (by simp; omega) ?_; intro v1 w1 ho hb hg hat; obtain ⟨A1, c1, rfl⟩ := Kd.N_slice ho; have HO1 := Aside0.mk ho; have HB1 := Aside0.mk hb; have hc1 := (Kd.N_reads' ho).2.1; clear ho hb hg hat))
    go_ret
    exact ⟨_, rfl, N_take0 HO1.out, HB1.out⟩

/-- The two rows that are joined. -/
structure Two (w : World) (b : Nat) (A1 : Option Addr) (c1 : Nat) (l1 : List S43) (A2 : Option Addr) (c2 : Nat) (l2 : List S43) : Prop where
  lt : b < w.heap.size
  c0 : w.cell? ⟨b, 0, none⟩ = some (.slice A1 l1.length c1)
  c1 : w.cell? ⟨b, 1, none⟩ = some (.slice A2 l2.length c2)
  f1 : Kd.F k43 w (fun _ => True) A1 l1.length l1
  f2 : Kd.F k43 w (fun _ => True) A2 l2.length l2

theorem F_old {α : Type} {d : Kd α} {w : World} {ok : Nat → Prop} {A : Option Addr} {n : Nat} {xs : List α} (h : Kd.F d w ok A n xs) : Kd.F d w (fun q => q < w.heap.size) A n xs := Kd.F_mono (Kd.F_bound h) (fun q hq => hq.2)
set_option maxHeartbeats 2000000 in
set_option maxRecDepth 100000 in
theorem concat_out {w : World} {b c : Nat} {A1 : Option Addr} {k1 : Nat} {l1 : List S43} {A2 : Option Addr} {k2 : Nat} {l2 : List S43} (h : Two w b A1 k1 l1 A2 k2 l2) (hc : 2 ≤ c) (h1 : l1.length ≤ 100000) (h2 : l2.length ≤ 100000) : Calls Tryz.prog 180 #[.slice (some ⟨b, 0, none⟩) 2 c] w fun e w' => ∃ v, e = .returned v ∧ Kd.N k43 43 w' w.heap.size (fun _ => True) v (l1 ++ l2) ∧ Below w.heap.size w w' := by
  have HT := Aside0.mk h
  have hlt := h.lt
  have hc0 := h.c0
  have hc1 := h.c1
  clear h
  have hw1 : wrap64 (0 + (l1.length : Int)) = (l1.length : Int) := by unfold wrap64; omega
  have hw1' : wrap64 (l1.length : Int) = (l1.length : Int) := by unfold wrap64; omega
  have hw2 : wrap64 ((l1.length : Int) + (l2.length : Int)) = (l1.length : Int) + (l2.length : Int) := by unfold wrap64; omega
  have d1 : decide ((l1.length : Int) < 0) = false := decide_eq_false (by omega)
  have d2 : decide ((l1.length : Int) + (l2.length : Int) < 0) = false := decide_eq_false (by omega)
  go_enter Tryz.func180, Tryz.ntmps180
  go_wp2
  go_loopg [3, 11] 2 (fun kq v3 v11 w' => w = w' ∧ ((kq = 2 ∧ v11 = .int .i64 0 ∧ v3 = .int .i64 0) ∨ (kq = 1 ∧ v11 = .int .i64 1 ∧ v3 = .int .i64 l1.length) ∨ (kq = 0 ∧ v11 = .int .i64 2 ∧ v3 = .int .i64 ((l1.length : Int) + (l2.length : Int)))))
  case atStart => exact ⟨rfl, .inl ⟨rfl, rfl, rfl⟩⟩
  case round =>
    obtain ⟨rfl, ⟨rfl, rfl, rfl⟩ | ⟨rfl, rfl, rfl⟩ | ⟨rfl, rfl, rfl⟩⟩ := hrel
    · go_wp2
      go_roundg 1
      case measure => omega
      case rel => exact ⟨rfl, .inr (.inl ⟨rfl, rfl, rfl⟩)⟩
    · go_wp2
      go_roundg 0
      case measure => omega
      case rel => exact ⟨rfl, .inr (.inr ⟨rfl, rfl, rfl⟩)⟩
    · have HF1 := Aside0.mk (F_old HT.out.f1)
      have HF2 := Aside0.mk (F_old HT.out.f2)
      go_wp2_with (first | (go_at_call 272; refine (grow_nil (n := (l1.length : Int) + (l2.length : Int)) (by omega) (by omega)).mono ?_; rintro e1 w1 ⟨v1, rfl, ho, hb⟩; have HO1 := Aside0.mk (Kd.N_mono ho (fun _ _ => trivial)); have HB1 := Aside0.mk hb; clear ho hb))
      go_loopg [6, 27] 2 (fun kq v6 v27 w' => Aside0 (Below w.heap.size w w') ∧ ((kq = 2 ∧ v27 = .int .i64 0 ∧ Aside0 (Kd.N k43 43 w' w.heap.size (fun _ => True) v6 [])) ∨ (kq = 1 ∧ v27 = .int .i64 1 ∧ Aside0 (Kd.N k43 43 w' w.heap.size (fun _ => True) v6 l1)) ∨ (kq = 0 ∧ v27 = .int .i64 2 ∧ Aside0 (Kd.N k43 43 w' w.heap.size (fun _ => True) v6 (l1 ++ l2)))))
      case atStart => exact ⟨HB1, .inl ⟨rfl, rfl, HO1⟩⟩
      case round =>
        clear HB1 HO1
        obtain ⟨HB, ⟨rfl, rfl, HO⟩ | ⟨rfl, rfl, HO⟩ | ⟨rfl, rfl, HO⟩⟩ := hrel
        · have c0 := pw_cell_below HB.out hc0
          have HF1 := Aside0.mk (Kd.F_step HF1.out (fun q hq _ => HB.out.block q hq))
          have hbl : b < wr.heap.size := Nat.lt_of_lt_of_le hlt HB.out.size
          clear hc0 hc1
          go_wp2_with (first | ((with_reducible refine gate_builtin (b := .append) (xs := #[.tmp 31, .tmp 32]) rfl ?_); at_builtin; refine Kd.N_append_rows k43 (w0 := w) w.heap.size rfl (.tmp 31) (.tmp 32) 41 43 (.agg #[(.string ⟨#[]⟩), (.int .i64 0), (.int .i64 0), (.string ⟨#[]⟩), (.string ⟨#[]⟩), (.slice none 0 0)]) 88 rfl Tryz.underlying41 info43 rfl (by decide) (by omega) u6 [] l1 A1 l1.length _ (fun _ => True) (fun q => q < w.heap.size) rfl rfl HO.out HF1.out ?aP (fun _ _ => trivial) HB.out HB.out.size ?aL ?_; (case aP => exact fun q hq => ⟨trivial, fun he => by have := Kd.N_base HO.out q he.symm; omega⟩); (case aL => first | omega | (simp; omega)); intro v6 w6 ho hb hg hat; have HO6 := Aside0.mk ho; have HB6 := Aside0.mk hb; clear ho hb hg hat))
          go_roundg 1
          case measure => omega
          case rel => exact ⟨HB6, .inr (.inl ⟨rfl, rfl, HO6⟩)⟩
        · have c1 := pw_cell_below HB.out hc1
          have HF2 := Aside0.mk (Kd.F_step HF2.out (fun q hq _ => HB.out.block q hq))
          have hbl : b < wr.heap.size := Nat.lt_of_lt_of_le hlt HB.out.size
          clear hc0 hc1
          go_wp2_with (first | ((with_reducible refine gate_builtin (b := .append) (xs := #[.tmp 31, .tmp 32]) rfl ?_); at_builtin; refine Kd.N_append_rows k43 (w0 := w) w.heap.size rfl (.tmp 31) (.tmp 32) 41 43 (.agg #[(.string ⟨#[]⟩), (.int .i64 0), (.int .i64 0), (.string ⟨#[]⟩), (.string ⟨#[]⟩), (.slice none 0 0)]) 88 rfl Tryz.underlying41 info43 rfl (by decide) (by omega) u6 l1 l2 A2 l2.length _ (fun _ => True) (fun q => q < w.heap.size) rfl rfl HO.out HF2.out ?aP (fun _ _ => trivial) HB.out HB.out.size ?aL ?_; (case aP => exact fun q hq => ⟨trivial, fun he => by have := Kd.N_base HO.out q he.symm; omega⟩); (case aL => first | omega | (simp; omega)); intro v6 w6 ho hb hg hat; have HO6 := Aside0.mk ho; have HB6 := Aside0.mk hb; clear ho hb hg hat))
          go_roundg 0
          case measure => omega
          case rel => exact ⟨HB6, .inr (.inr ⟨rfl, rfl, HO6⟩)⟩
        · go_wp2
          go_ret
          exact ⟨_, rfl, HO.out, HB.out⟩
end Go.Proofs.YtcgdncpioafbdaaGreatDoor.Q

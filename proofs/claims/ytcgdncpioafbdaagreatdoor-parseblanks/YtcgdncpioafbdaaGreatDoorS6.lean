/- Lemmas for the law: Qbl. -/
import Derived.Test.YtcgdncpioafbdaaGreatDoorRows
import Derived.Test.YtcgdncpioafbdaaGreatDoorTie
import Derived.Test.YtcgdncpioafbdaaGreatDoorCards
import Derived.Test.YtcgdncpioafbdaaGreatDoorS1
import Derived.Test.YtcgdncpioafbdaaGreatDoorS2
import Derived.Test.YtcgdncpioafbdaaGreatDoorS3
import Derived.Test.YtcgdncpioafbdaaGreatDoorS4
import Derived.Test.YtcgdncpioafbdaaGreatDoorS5
set_option linter.unusedVariables false
set_option linter.unusedSimpArgs false
/- ParseBlanks walked: true. -/
namespace Go.Proofs.YtcgdncpioafbdaaGreatDoor.Q
open Go Go.RowKit Go.Proofs.YtcgdncpioafbdaaGreatDoorW.PrintWords Go.Proofs.YtcgdncpioafbdaaGreatDoorW.PrintLast Go.Proofs.YtcgdncpioafbdaaGreatDoorW.PrintMore
attribute [local go_sem high] store60 cells60_len
theorem mark_cell {w : World} {g : Nat} {t : TypeId} {cs : Array Value} {a b : Nat} (h : w.heap[g]? = some (.cells cs t (a, b))) (i : Nat) : w.cell? ⟨g, i, none⟩ = cs[i]? := cell_of_row w g i cs t (a, b) h
theorem mark_frozen {w : World} {g : Nat} {t : TypeId} {cs : Array Value} {a b : Nat} (h : w.heap[g]? = some (.cells cs t (a, b))) (i : Nat) (hi : i < a) : w.frozen? ⟨g, i, none⟩ = false := by
  simp [World.frozen?, h]
  omega
theorem mark_put {w : World} {g : Nat} {t : TypeId} {cs : Array Value} {a b : Nat} (h : w.heap[g]? = some (.cells cs t (a, b))) (i : Nat) (u : Value) : (w.setCell ⟨g, i, none⟩ u).heap[g]? = some (.cells (cs.setIfInBounds i u) t (a, b)) := by
  simp [World.setCell, Array.getElem?_modify, h]
/-- The bytes as far as they are great. -/
def gAt (s : ByteArray) (j k : Nat) : Int := ((if k < j then Lx.upB (s.data.toList.getD k 0) else s.data.toList.getD k 0).toNat : Int)
structure GB (s : ByteArray) (bg j : Nat) (w : World) : Prop where
  blk : ∃ (cs : Array Value) (N : Nat), w.heap[bg]? = some (.cells cs 5 (N, N + 1)) ∧ cs.size = N ∧ s.size ≤ N ∧ ∀ k, k < s.size → cs[k]? = some (.int .u8 (gAt s j k))
theorem GB.cell {s : ByteArray} {bg j : Nat} {w : World} (h : GB s bg j w) (k : Nat) (hk : k < s.size) : w.cell? ⟨bg, k, none⟩ = some (.int .u8 (gAt s j k)) := by
  obtain ⟨cs, N, h1, h2, h3, h4⟩ := h.blk
  rw [mark_cell h1]; exact h4 k hk
theorem GB.frozen {s : ByteArray} {bg j : Nat} {w : World} (h : GB s bg j w) (k : Nat) (hk : k < s.size) : w.frozen? ⟨bg, k, none⟩ = false := by
  obtain ⟨cs, N, h1, h2, h3, h4⟩ := h.blk
  exact mark_frozen h1 k (by omega)
theorem GB.lt {s : ByteArray} {bg j : Nat} {w : World} (h : GB s bg j w) : bg < w.heap.size := by
  obtain ⟨cs, N, h1, _⟩ := h.blk
  exact blk_lt h1
theorem GB.new (s : ByteArray) (W : World) : GB s W.heap.size 0 (Lib.bytesWorld W 5 s) := by
  refine ⟨_, _, Lib.bytesWorld_at_new W 5 s, rfl, ?_, fun k hk => ?_⟩
  · unfold Lib.bytesCells; simp
  · have h := Lib.bytesWorld_cell W 5 s k hk
    rw [mark_cell (Lib.bytesWorld_at_new W 5 s)] at h
    rw [h]
    simp [gAt]
theorem GB.keep {s : ByteArray} {bg j : Nat} {w : World} (h : GB s bg j w) (hj : j < s.size) (hu : Lx.upB (s.data.toList.getD j 0) = s.data.toList.getD j 0) : GB s bg (j + 1) w := by
  obtain ⟨cs, N, h1, h2, h3, h4⟩ := h.blk
  refine ⟨cs, N, h1, h2, h3, fun k hk => ?_⟩
  rw [h4 k hk]
  unfold gAt
  by_cases e : k = j
  · subst e
    rw [if_neg (by omega), if_pos (by omega), hu]
  · by_cases h5 : k < j
    · rw [if_pos h5, if_pos (by omega)]
    · rw [if_neg h5, if_neg (by omega)]
theorem GB.put {s : ByteArray} {bg j : Nat} {w : World} {v : Int} (h : GB s bg j w) (hj : j < s.size) (hu : ((Lx.upB (s.data.toList.getD j 0)).toNat : Int) = v) : GB s bg (j + 1) (w.setCell ⟨bg, j, none⟩ (.int .u8 v)) := by
  obtain ⟨cs, N, h1, h2, h3, h4⟩ := h.blk
  refine ⟨_, N, mark_put h1 j _, by simp [h2], h3, fun k hk => ?_⟩
  rw [Array.getElem?_setIfInBounds]
  by_cases e : j = k
  · subst e
    rw [if_pos rfl, if_pos (by omega)]
    unfold gAt
    rw [if_pos (by omega), hu]
  · rw [if_neg e, h4 k hk]
    unfold gAt
    by_cases h5 : k < j
    · rw [if_pos h5, if_pos (by omega)]
    · rw [if_neg h5, if_neg (by omega)]
theorem GB.below {s : ByteArray} {bg j : Nat} {w w' : World} (h : GB s bg j w) (hb : Below w.heap.size w w') : GB s bg j w' := by
  obtain ⟨cs, N, h1, h2⟩ := h.blk
  exact ⟨cs, N, (hb.block bg (blk_lt h1)).trans h1, h2⟩
theorem GB.str {s : ByteArray} {bg : Nat} {w : World} (h : GB s bg s.size w) (hs : s.size ≤ 1000) (c : Nat) : (convert 36 9 (.slice (some ⟨bg, 0, none⟩) s.size c)).run Tryz.prog w = .ok (.string (great s)) w := by
  have hr : ReadsInt w .u8 (some ⟨bg, 0, none⟩) s.size ((s.data.toList.map Lx.upB).map fun c => (c.toNat : Int)) := by
    refine ⟨by simp [len_data], by omega, fun _ => ⟨_, rfl, fun k hk => ?_⟩⟩
    rw [add_plain]
    rw [h.cell k hk]
    unfold gAt
    rw [if_pos hk]
    have hk2 : k < s.data.toList.length := by rw [len_data]; exact hk
    simp [List.getD_eq_getElem?_getD, List.getElem?_eq_getElem hk2]
  rw [string_of_reads Tryz.underlying36 Tryz.underlying5 Tryz.underlying9 hr]
  congr 2
  unfold strOfNums great ba
  congr 2
  rw [List.map_map]
  have e : ∀ l : List UInt8, l.map ((fun n : Int => UInt8.ofNat n.toNat) ∘ fun c => (c.toNat : Int)) = l := fun l => by
    induction l with
    | nil => rfl
    | cons a b ih => rw [List.map_cons, ih]; simp
  exact e _
theorem up_small {c : UInt8} (h1 : 97 ≤ (c.toNat : Int)) (h2 : (c.toNat : Int) ≤ 122) : ((Lx.upB c).toNat : Int) = (c.toNat : Int) - 32 := by
  have : ∀ c : UInt8, (97 ≤ (c.toNat : Int) → (c.toNat : Int) ≤ 122 → ((Lx.upB c).toNat : Int) = (c.toNat : Int) - 32) := fun c => Lx.all8 (p := fun c => 97 ≤ (c.toNat : Int) → (c.toNat : Int) ≤ 122 → ((Lx.upB c).toNat : Int) = (c.toNat : Int) - 32) (by decide +kernel) c
  exact this c h1 h2
theorem up_not {c : UInt8} (h : ¬(97 ≤ (c.toNat : Int) ∧ (c.toNat : Int) ≤ 122)) : Lx.upB c = c := by
  have : ∀ c : UInt8, ¬(97 ≤ (c.toNat : Int) ∧ (c.toNat : Int) ≤ 122) → Lx.upB c = c := fun c => Lx.all8 (p := fun c => ¬(97 ≤ (c.toNat : Int) ∧ (c.toNat : Int) ≤ 122) → Lx.upB c = c) (by decide +kernel) c
  exact this c h
/-- What the loop has seen: no quote, no two - side by side. -/
def Seen (s : ByteArray) (j : Nat) : Prop := ∀ k, k < j → s.data.toList.getD k 0 ≠ 39 ∧ (0 < k → ¬(s.data.toList.getD k 0 = 45 ∧ s.data.toList.getD (k - 1) 0 = 45))
theorem dash_get : ∀ l : List UInt8, (∀ k, 0 < k → k < l.length → ¬(l.getD k 0 = 45 ∧ l.getD (k - 1) 0 = 45)) → Lx.dash2 l = false
  | [], _ => rfl
  | [c], _ => by simp [Lx.dash2]
  | c :: d :: r, h => by
    have h1 := h 1 (by decide) (by simp)
    have h2 := dash_get (d :: r) (fun k hk hl => by
      have := h (k + 1) (by omega) (by simp at hl ⊢; omega)
      obtain ⟨m, rfl⟩ : ∃ m, k = m + 1 := ⟨k - 1, by omega⟩
      simpa using this)
    simp only [List.getD_cons_succ, List.getD_cons_zero, Nat.sub_self] at h1
    rw [Lx.dash2, h2]
    simp only [List.head?_cons, Bool.or_false]
    cases hc : (c == 45 && some d == some 45) with
    | false => rfl
    | true =>
      simp only [Bool.and_eq_true, beq_iff_eq, Option.some.injEq] at hc
      exact absurd ⟨hc.2, hc.1⟩ h1
theorem Seen.plain {s : ByteArray} (h : Seen s s.size) (hs : s.size ≤ 1000) : Plain s := by
  refine ⟨fun hm => ?_, dash_get _ (fun k h1 h2 => (h k (by rw [len_data] at h2; exact h2)).2 h1), hs⟩
  obtain ⟨k, hk, he⟩ := List.getElem_of_mem hm
  have := (h k (by rw [len_data] at hk; exact hk)).1
  rw [List.getD_eq_getElem?_getD, List.getElem?_eq_getElem hk, he] at this
  exact this rfl
theorem ends_l (s : ByteArray) (hs : s.size ≤ 1000) : ∀ (n k i : Nat), s.size - i = n → n < k → i ≤ s.size → vidimuslaw17_ends.l0 k s (s.size : Int) (i : Int) = some ((s.data.toList.drop i).contains 59)
  | n, 0, i, _, h, _ => by omega
  | 0, k + 1, i, hn, _, hi => by
    rw [vidimuslaw17_ends.l0, if_neg (by omega), List.drop_of_length_le (by rw [len_data]; omega)]
    rfl
  | n + 1, k + 1, i, hn, hk, hi => by
    have hlt : i < s.size := by omega
    rw [vidimuslaw17_ends.l0, if_pos (by omega), if_pos (by omega), if_pos (by omega)]
    have ew : wrap64 ((i : Int) + 1) = ((i + 1 : Nat) : Int) := by rw [w64 (by omega) (by omega)]; omega
    rw [bt_get s i hlt, drop_get s i hlt, ew, List.contains_cons]
    by_cases h : ((s[i]'hlt).toNat : Int) = 59
    · have h2 : s[i]'hlt = 59 := u8_nat (n := 59) h (by decide)
      rw [if_pos h, h2]
      rfl
    · have h2 : ((59 : UInt8) == s[i]'hlt) = false := beq_eq_false_iff_ne.mpr fun e => h (by rw [← e]; rfl)
      rw [if_neg h, ends_l s hs n k (i + 1) (by omega) (by omega) (by omega), h2]
      rfl
theorem ends_is {s : ByteArray} (hs : s.size ≤ 1000) (h : 59 ∈ s.data.toList) : vidimuslaw17_ends.f 2000 s = some true := by
  unfold vidimuslaw17_ends.f
  rw [show (0 : Int) = ((0 : Nat) : Int) from rfl, ends_l s hs s.size 2000 0 (by omega) (by omega) (by omega), List.drop_zero, List.contains_iff_mem.2 h]
set_option maxHeartbeats 4000000 in
set_option maxRecDepth 100000 in
theorem blanks17_calls {w : World} (s : ByteArray) (hG : GV w) : Calls Tryz.prog 10 #[.string s] w fun e w' => e = .returned (.bool true) ∧ Below w.heap.size w w' := by
  have HG := Aside0.mk hG
  clear hG
  by_cases h1 : 1000 < s.size
  · go_enter Tryz.func10, Tryz.ntmps10
    go_wp2_with (first | (go_at_call 40; refine (awake_calls HG.out).mono ?_; rintro e v ⟨rfl, hb⟩; have HBv := Aside0.mk hb; clear hb))
    go_ret
    exact ⟨rfl, HBv.out⟩
  · replace h1 : s.size ≤ 1000 := by omega
    have kb := fun W => print_bytes (P := Tryz.prog) 9 36 5 Tryz.underlying9 Tryz.underlying36 Tryz.underlying5 s W
    go_enter Tryz.func10, Tryz.ntmps10
    go_upto_region 6 with (first | (go_at_call 40; refine (awake_calls HG.out).mono ?_; rintro e v ⟨rfl, hb⟩; have HBv := Aside0.mk hb; clear hb))
    have HGB := Aside0.mk (GB.new s v)
    have HB := Aside0.mk (bytes_below HBv.out HBv.out.size 5 s)
    clear kb
    generalize hbg : v.heap.size = bg at HGB ⊢
    have hbg2 : w.heap.size ≤ bg := by rw [← hbg]; exact HBv.out.size
    generalize hcap : grownCap v s.size 0 5 = cap
    generalize hW0 : Lib.bytesWorld v 5 s = W0 at HGB HB ⊢
    clear hbg hW0 hcap
    go_upto_region 7 with (fail)
    go_loopg [23] s.size (fun kq v23 w' => ∃ j : Nat, v23 = .int .i64 (j : Int) ∧ Aside0 (j + kq = s.size) ∧ Aside0 (Seen s j) ∧ Aside0 (GB s bg j w') ∧ Aside0 (Below w.heap.size w w'))
    case atStart => exact ⟨0, rfl, ⟨by omega⟩, ⟨fun k hk => absurd hk (by omega)⟩, HGB, HB⟩
    case round =>
      clear HGB HB
      obtain ⟨j, rfl, HJ, HI, HGB, HB⟩ := hrel
      cases gk with
      | zero =>
        have hjn : j = s.size := by have := HJ.out; omega
        subst hjn
        have HS := Aside0.mk (HI.out.plain h1)
        have HG0 := Aside0.mk (HG.out.below HB.out)
        clear HG
        have HG := HG0
        clear HG0
        have d0 : decide ((s.size : Int) < (s.size : Int)) = false := decide_eq_false (by omega)
        have d1 : decide (s.size < s.size) = false := decide_eq_false (by omega)
        have zg : (great s).size ≤ 1000 := by rw [great_size]; exact h1
        obtain ⟨x1, hx1⟩ : ∃ x, (parseS (s)).1 = x := ⟨_, rfl⟩
        obtain ⟨c1, hc1⟩ : ∃ c, (parseS (s)).2 = c := ⟨_, rfl⟩
        have HX1 := Aside0.mk hx1
        have E1 := Aside0.mk hc1
        have PC1 : Aside0 (∀ v : World, GV v → Calls Tryz.prog 46 #[.string (s)] v fun e w' => ∃ a : Ads, e = .returned (.tuple #[.agg (celA x1 a), .int .i64 c1]) ∧ StA (fun q => v.heap.size ≤ q) w' x1 a ∧ Below v.heap.size v w') := ⟨by
          intro v hv
          refine (parse_calls (s) hv).mono ?_
          rintro e w' ⟨u, rfl, ⟨a, rfl, hF⟩, hb⟩
          exact ⟨a, by rw [HX1.out, E1.out], by rw [← HX1.out]; exact hF, hb⟩⟩
        clear hx1 hc1
        go_upto_region 15 with (first | (go_at_call 46; refine (PC1.out _ HG.out).mono ?_; rintro e v1 ⟨a1, rfl, hF, hb⟩; have HF1 := Aside0.mk hF; have HV1 := Aside0.mk (below_step HB.out hb); have HW1 := Aside0.mk hb; clear hF hb))
        have HD1 := Aside0.mk (Held.new HF1.out HW1.out.size)
        have HA1 := Aside0.mk (below_alloc HV1.out (.cells (celA x1 a1) 60 (0, 0)))
        have HU1 := Aside0.mk (below_alloc HW1.out (.cells (celA x1 a1) 60 (0, 0)))
        have HGB_ := Aside0.mk (HGB.out.below HU1.out)
        clear HGB
        have HGB := HGB_
        clear HGB_
        have HG1 := Aside0.mk (HG.out.below HU1.out)
        generalize hb1 : v1.heap.size = b1 at HD1 ⊢
        generalize hW1 : v1.alloc (.cells (celA x1 a1) 60 (0, 0)) = W1 at HD1 HA1 HG1 HGB ⊢
        clear hb1 hW1 HF1 HV1 HW1 HU1 PC1
        have hcv := HGB.out.str HS.out.len cap
        obtain ⟨x2, hx2⟩ : ∃ x, (parseS (great s ++ remB)).1 = x := ⟨_, rfl⟩
        obtain ⟨c2, hc2⟩ : ∃ c, (parseS (great s ++ remB)).2 = c := ⟨_, rfl⟩
        have HX2 := Aside0.mk hx2
        have E2 := Aside0.mk hc2
        have PC2 : Aside0 (∀ v : World, GV v → Calls Tryz.prog 46 #[.string (great s ++ remB)] v fun e w' => ∃ a : Ads, e = .returned (.tuple #[.agg (celA x2 a), .int .i64 c2]) ∧ StA (fun q => v.heap.size ≤ q) w' x2 a ∧ Below v.heap.size v w') := ⟨by
          intro v hv
          refine (parse_calls (great s ++ remB) hv).mono ?_
          rintro e w' ⟨u, rfl, ⟨a, rfl, hF⟩, hb⟩
          exact ⟨a, by rw [HX2.out, E2.out], by rw [← HX2.out]; exact hF, hb⟩⟩
        clear hx2 hc2
        go_upto_region 16 with (first | (go_at_call 46; refine (PC2.out _ HG1.out).mono ?_; rintro e v2 ⟨a2, rfl, hF, hb⟩; have HF2 := Aside0.mk hF; have HV2 := Aside0.mk (below_step HA1.out hb); have HW2 := Aside0.mk hb; clear hF hb))
        have HD2 := Aside0.mk (Held.new HF2.out HW2.out.size)
        have HA2 := Aside0.mk (below_alloc HV2.out (.cells (celA x2 a2) 60 (0, 0)))
        have HU2 := Aside0.mk (below_alloc HW2.out (.cells (celA x2 a2) 60 (0, 0)))
        have HD1_ := Aside0.mk (HD1.out.below HU2.out)
        clear HD1
        have HD1 := HD1_
        clear HD1_
        have HGB_ := Aside0.mk (HGB.out.below HU2.out)
        clear HGB
        have HGB := HGB_
        clear HGB_
        have HG2 := Aside0.mk (HG1.out.below HU2.out)
        generalize hb2 : v2.heap.size = b2 at HD2 ⊢
        generalize hW2 : v2.alloc (.cells (celA x2 a2) 60 (0, 0)) = W2 at HD2 HA2 HG2 HD1 HGB ⊢
        clear hb2 hW2 HF2 HV2 HW2 HU2 PC2
        clear hcv
        obtain ⟨x3, hx3⟩ : ∃ x, (parseS (s ++ (⟨#[59, 59]⟩ : ByteArray))).1 = x := ⟨_, rfl⟩
        obtain ⟨c3, hc3⟩ : ∃ c, (parseS (s ++ (⟨#[59, 59]⟩ : ByteArray))).2 = c := ⟨_, rfl⟩
        have HX3 := Aside0.mk hx3
        have E3 := Aside0.mk hc3
        have PC3 : Aside0 (∀ v : World, GV v → Calls Tryz.prog 46 #[.string (s ++ (⟨#[59, 59]⟩ : ByteArray))] v fun e w' => ∃ a : Ads, e = .returned (.tuple #[.agg (celA x3 a), .int .i64 c3]) ∧ StA (fun q => v.heap.size ≤ q) w' x3 a ∧ Below v.heap.size v w') := ⟨by
          intro v hv
          refine (parse_calls (s ++ (⟨#[59, 59]⟩ : ByteArray)) hv).mono ?_
          rintro e w' ⟨u, rfl, ⟨a, rfl, hF⟩, hb⟩
          exact ⟨a, by rw [HX3.out, E3.out], by rw [← HX3.out]; exact hF, hb⟩⟩
        clear hx3 hc3
        go_upto_region 17 with (first | (go_at_call 46; refine (PC3.out _ HG2.out).mono ?_; rintro e v3 ⟨a3, rfl, hF, hb⟩; have HF3 := Aside0.mk hF; have HV3 := Aside0.mk (below_step HA2.out hb); have HW3 := Aside0.mk hb; clear hF hb))
        have HD3 := Aside0.mk (Held.new HF3.out HW3.out.size)
        have HA3 := Aside0.mk (below_alloc HV3.out (.cells (celA x3 a3) 60 (0, 0)))
        have HU3 := Aside0.mk (below_alloc HW3.out (.cells (celA x3 a3) 60 (0, 0)))
        have HD1_ := Aside0.mk (HD1.out.below HU3.out)
        clear HD1
        have HD1 := HD1_
        clear HD1_
        have HD2_ := Aside0.mk (HD2.out.below HU3.out)
        clear HD2
        have HD2 := HD2_
        clear HD2_
        have HG3 := Aside0.mk (HG2.out.below HU3.out)
        generalize hb3 : v3.heap.size = b3 at HD3 ⊢
        generalize hW3 : v3.alloc (.cells (celA x3 a3) 60 (0, 0)) = W3 at HD3 HA3 HG3 HD1 HD2 ⊢
        clear hb3 hW3 HF3 HV3 HW3 HU3 PC3
        have g1 := bl_great HS.out
        have g2 := bl_two HS.out
        have g3 : x1 = x2 := by rw [← HX2.out, g1, HX1.out]
        have g4 : c1 = c2 := by rw [← E2.out, g1, E1.out]
        have g5 : (c3 == 0) = false := by rw [← E3.out]; exact beq_eq_false_iff_ne.mpr g2
        have HO := Aside0.mk (show SameOk x1 by rw [← HX1.out]; exact sameOk_parse s)
        clear g1 g2
        subst g3
        subst g4
        have r1c0 : W3.cell? ⟨b1, 0, none⟩ = some (.int .i64 x1.f0) := (blk_cell HD1.out.blk 0).trans rfl
        have r1c1 : W3.cell? ⟨b1, 1, none⟩ = some (.string x1.f1) := (blk_cell HD1.out.blk 1).trans rfl
        have r1c2 : W3.cell? ⟨b1, 2, none⟩ = some (.slice a1.a2 x1.f2.length a1.c2) := (blk_cell HD1.out.blk 2).trans rfl
        have r1c3 : W3.cell? ⟨b1, 3, none⟩ = some (.string x1.f3) := (blk_cell HD1.out.blk 3).trans rfl
        have r1c4 : W3.cell? ⟨b1, 4, none⟩ = some (.slice a1.a4 x1.f4.length a1.c4) := (blk_cell HD1.out.blk 4).trans rfl
        have r1c5 : W3.cell? ⟨b1, 5, none⟩ = some (.slice a1.a5 x1.f5.length a1.c5) := (blk_cell HD1.out.blk 5).trans rfl
        have r1c6 : W3.cell? ⟨b1, 6, none⟩ = some (.slice a1.a6 x1.f6.length a1.c6) := (blk_cell HD1.out.blk 6).trans rfl
        have r1c7 : W3.cell? ⟨b1, 7, none⟩ = some (.slice a1.a7 x1.f7.length a1.c7) := (blk_cell HD1.out.blk 7).trans rfl
        have r1c8 : W3.cell? ⟨b1, 8, none⟩ = some (.string x1.f8) := (blk_cell HD1.out.blk 8).trans rfl
        have r1c9 : W3.cell? ⟨b1, 9, none⟩ = some (.bool x1.f9) := (blk_cell HD1.out.blk 9).trans rfl
        have r1c10 : W3.cell? ⟨b1, 10, none⟩ = some (.int .i64 x1.f10) := (blk_cell HD1.out.blk 10).trans rfl
        have r1lt := HD1.out.lt
        have r2c0 : W3.cell? ⟨b2, 0, none⟩ = some (.int .i64 x1.f0) := (blk_cell HD2.out.blk 0).trans rfl
        have r2c1 : W3.cell? ⟨b2, 1, none⟩ = some (.string x1.f1) := (blk_cell HD2.out.blk 1).trans rfl
        have r2c2 : W3.cell? ⟨b2, 2, none⟩ = some (.slice a2.a2 x1.f2.length a2.c2) := (blk_cell HD2.out.blk 2).trans rfl
        have r2c3 : W3.cell? ⟨b2, 3, none⟩ = some (.string x1.f3) := (blk_cell HD2.out.blk 3).trans rfl
        have r2c4 : W3.cell? ⟨b2, 4, none⟩ = some (.slice a2.a4 x1.f4.length a2.c4) := (blk_cell HD2.out.blk 4).trans rfl
        have r2c5 : W3.cell? ⟨b2, 5, none⟩ = some (.slice a2.a5 x1.f5.length a2.c5) := (blk_cell HD2.out.blk 5).trans rfl
        have r2c6 : W3.cell? ⟨b2, 6, none⟩ = some (.slice a2.a6 x1.f6.length a2.c6) := (blk_cell HD2.out.blk 6).trans rfl
        have r2c7 : W3.cell? ⟨b2, 7, none⟩ = some (.slice a2.a7 x1.f7.length a2.c7) := (blk_cell HD2.out.blk 7).trans rfl
        have r2c8 : W3.cell? ⟨b2, 8, none⟩ = some (.string x1.f8) := (blk_cell HD2.out.blk 8).trans rfl
        have r2c9 : W3.cell? ⟨b2, 9, none⟩ = some (.bool x1.f9) := (blk_cell HD2.out.blk 9).trans rfl
        have r2c10 : W3.cell? ⟨b2, 10, none⟩ = some (.int .i64 x1.f10) := (blk_cell HD2.out.blk 10).trans rfl
        have r2lt := HD2.out.lt
        have HG3_ := HG3
        by_cases k0 : c1 = 0
        · have y0 : (c1 != 0) = false := by rw [k0]; rfl
          have o1 := bl_one HS.out (by rw [E1.out, k0])
          go_upto_region 21 with (first | (go_at_call 48; refine (same_out (x := x1) HO.out (HD1.out.fr) (HD2.out.fr)).mono ?_; rintro e u1 ⟨rfl, hb⟩; have HU1 := Aside0.mk hb; clear hb))
          have HG5 := Aside0.mk (HG3.out.below HU1.out)
          have HA5 := Aside0.mk (below_step HA3.out HU1.out)
          have HD1_ := Aside0.mk (HD1.out.below HU1.out)
          clear HD1
          have HD1 := HD1_
          clear HD1_ HD2 HD3
          clear r1c0 r1c1 r1c2 r1c3 r1c4 r1c5 r1c6 r1c7 r1c8 r1c9 r1c10 r2c0 r2c1 r2c2 r2c3 r2c4 r2c5 r2c6 r2c7 r2c8 r2c9 r2c10
          obtain ⟨x4, hx4⟩ : ∃ x, (parseS (s ++ (⟨#[32, 59]⟩ : ByteArray))).1 = x := ⟨_, rfl⟩
          obtain ⟨c4, hc4⟩ : ∃ c, (parseS (s ++ (⟨#[32, 59]⟩ : ByteArray))).2 = c := ⟨_, rfl⟩
          have HX4 := Aside0.mk hx4
          have E4 := Aside0.mk hc4
          have PC4 : Aside0 (∀ v : World, GV v → Calls Tryz.prog 46 #[.string (s ++ (⟨#[32, 59]⟩ : ByteArray))] v fun e w' => ∃ a : Ads, e = .returned (.tuple #[.agg (celA x4 a), .int .i64 c4]) ∧ StA (fun q => v.heap.size ≤ q) w' x4 a ∧ Below v.heap.size v w') := ⟨by
            intro v hv
            refine (parse_calls (s ++ (⟨#[32, 59]⟩ : ByteArray)) hv).mono ?_
            rintro e w' ⟨u, rfl, ⟨a, rfl, hF⟩, hb⟩
            exact ⟨a, by rw [HX4.out, E4.out], by rw [← HX4.out]; exact hF, hb⟩⟩
          clear hx4 hc4
          go_upto_region 22 with (first | (go_at_call 46; refine (PC4.out _ HG5.out).mono ?_; rintro e v4 ⟨a4, rfl, hF, hb⟩; have HF4 := Aside0.mk hF; have HV4 := Aside0.mk (below_step HA5.out hb); have HW4 := Aside0.mk hb; clear hF hb))
          have HD4 := Aside0.mk (Held.new HF4.out HW4.out.size)
          have HA4 := Aside0.mk (below_alloc HV4.out (.cells (celA x4 a4) 60 (0, 0)))
          have HU4 := Aside0.mk (below_alloc HW4.out (.cells (celA x4 a4) 60 (0, 0)))
          have HD1_ := Aside0.mk (HD1.out.below HU4.out)
          clear HD1
          have HD1 := HD1_
          clear HD1_
          have HG4 := Aside0.mk (HG5.out.below HU4.out)
          generalize hb4 : v4.heap.size = b4 at HD4 ⊢
          generalize hW4 : v4.alloc (.cells (celA x4 a4) 60 (0, 0)) = W4 at HD4 HA4 HG4 HD1 ⊢
          clear hb4 hW4 HF4 HV4 HW4 HU4 PC4
          rcases o1 with o1 | ⟨o1, o2⟩
          · have g3 : x1 = x4 := by rw [← HX4.out, o1, HX1.out]
            have g4 : 0 = c4 := by rw [← E4.out, o1, E1.out, k0]
            subst g3
            subst g4
            clear o1
            have r1c0 : W4.cell? ⟨b1, 0, none⟩ = some (.int .i64 x1.f0) := (blk_cell HD1.out.blk 0).trans rfl
            have r1c1 : W4.cell? ⟨b1, 1, none⟩ = some (.string x1.f1) := (blk_cell HD1.out.blk 1).trans rfl
            have r1c2 : W4.cell? ⟨b1, 2, none⟩ = some (.slice a1.a2 x1.f2.length a1.c2) := (blk_cell HD1.out.blk 2).trans rfl
            have r1c3 : W4.cell? ⟨b1, 3, none⟩ = some (.string x1.f3) := (blk_cell HD1.out.blk 3).trans rfl
            have r1c4 : W4.cell? ⟨b1, 4, none⟩ = some (.slice a1.a4 x1.f4.length a1.c4) := (blk_cell HD1.out.blk 4).trans rfl
            have r1c5 : W4.cell? ⟨b1, 5, none⟩ = some (.slice a1.a5 x1.f5.length a1.c5) := (blk_cell HD1.out.blk 5).trans rfl
            have r1c6 : W4.cell? ⟨b1, 6, none⟩ = some (.slice a1.a6 x1.f6.length a1.c6) := (blk_cell HD1.out.blk 6).trans rfl
            have r1c7 : W4.cell? ⟨b1, 7, none⟩ = some (.slice a1.a7 x1.f7.length a1.c7) := (blk_cell HD1.out.blk 7).trans rfl
            have r1c8 : W4.cell? ⟨b1, 8, none⟩ = some (.string x1.f8) := (blk_cell HD1.out.blk 8).trans rfl
            have r1c9 : W4.cell? ⟨b1, 9, none⟩ = some (.bool x1.f9) := (blk_cell HD1.out.blk 9).trans rfl
            have r1c10 : W4.cell? ⟨b1, 10, none⟩ = some (.int .i64 x1.f10) := (blk_cell HD1.out.blk 10).trans rfl
            have r1lt := HD1.out.lt
            have r4c0 : W4.cell? ⟨b4, 0, none⟩ = some (.int .i64 x1.f0) := (blk_cell HD4.out.blk 0).trans rfl
            have r4c1 : W4.cell? ⟨b4, 1, none⟩ = some (.string x1.f1) := (blk_cell HD4.out.blk 1).trans rfl
            have r4c2 : W4.cell? ⟨b4, 2, none⟩ = some (.slice a4.a2 x1.f2.length a4.c2) := (blk_cell HD4.out.blk 2).trans rfl
            have r4c3 : W4.cell? ⟨b4, 3, none⟩ = some (.string x1.f3) := (blk_cell HD4.out.blk 3).trans rfl
            have r4c4 : W4.cell? ⟨b4, 4, none⟩ = some (.slice a4.a4 x1.f4.length a4.c4) := (blk_cell HD4.out.blk 4).trans rfl
            have r4c5 : W4.cell? ⟨b4, 5, none⟩ = some (.slice a4.a5 x1.f5.length a4.c5) := (blk_cell HD4.out.blk 5).trans rfl
            have r4c6 : W4.cell? ⟨b4, 6, none⟩ = some (.slice a4.a6 x1.f6.length a4.c6) := (blk_cell HD4.out.blk 6).trans rfl
            have r4c7 : W4.cell? ⟨b4, 7, none⟩ = some (.slice a4.a7 x1.f7.length a4.c7) := (blk_cell HD4.out.blk 7).trans rfl
            have r4c8 : W4.cell? ⟨b4, 8, none⟩ = some (.string x1.f8) := (blk_cell HD4.out.blk 8).trans rfl
            have r4c9 : W4.cell? ⟨b4, 9, none⟩ = some (.bool x1.f9) := (blk_cell HD4.out.blk 9).trans rfl
            have r4c10 : W4.cell? ⟨b4, 10, none⟩ = some (.int .i64 x1.f10) := (blk_cell HD4.out.blk 10).trans rfl
            have r4lt := HD4.out.lt
            go_wp2_with (first | (go_at_call 48; refine (same_out (x := x1) HO.out (HD1.out.fr) (HD4.out.fr)).mono ?_; rintro e u2 ⟨rfl, hb⟩; have HU2 := Aside0.mk hb; clear hb))
            go_ret
            exact ⟨rfl, below_step HA4.out HU2.out⟩
          · have g4 : 20 = c4 := by rw [← E4.out]; exact o1.symm
            subst g4
            have HE := Aside0.mk (ends_is HS.out.len o2)
            clear o1 o2
            go_wp2_with (first | (go_at_call 49; refine (vidimuslaw17_ends.calls 2000 s _ _ HE.out).mono ?_; rintro e u2 ⟨rfl, ⟨nd, rfl⟩⟩))
            go_ret
            exact ⟨rfl, pw_below_drewN HA4.out nd⟩
        · have y0 : (c1 != 0) = true := bne_iff_ne.mpr k0
          go_wp2_with (first | (go_at_call 48; refine (same_out (x := x1) HO.out (HD1.out.fr) (HD2.out.fr)).mono ?_; rintro e u1 ⟨rfl, hb⟩; have HU1 := Aside0.mk hb; clear hb))
          go_ret
          exact ⟨rfl, below_step HA3.out HU1.out⟩

      | succ k1 =>
        have hjl : j < s.size := by have := HJ.out; omega
        have d0 : decide ((j : Int) < (s.size : Int)) = true := decide_eq_true (by omega)
        have d1 : decide (j < s.size) = true := decide_eq_true hjl
        have p1 : (0 ≤ (j : Int)) = True := eq_true (by omega)
        have q1 : ((j : Int) < (s.size : Int)) = True := eq_true (by omega)
        have p2 : ((j : Int) < 0) = False := eq_false (by omega)
        have HJ1 := Aside0.mk (show j + 1 + k1 = s.size by have := HJ.out; omega)
        have hw1 : wrap64 ((j : Int) + 1) = ((j + 1 : Nat) : Int) := by unfold wrap64; omega
        have x0 := HGB.out.cell j hjl
        have hlt := HGB.out.lt
        have ha : gAt s j j = ((s.data.toList.getD j 0).toNat : Int) := by unfold gAt; rw [if_neg (by omega)]
        rw [ha] at x0
        obtain ⟨c, hc⟩ : ∃ c, s.data.toList.getD j 0 = c := ⟨_, rfl⟩
        rw [hc] at x0
        have HC := Aside0.mk hc
        clear ha hc
        have hb := c.toNat_lt
        by_cases k1_ : c = 39
        · have b0 : ((c.toNat : Int) == 39) = true := by rw [k1_]; rfl
          clear k1_
          go_wp2
          go_ret
          exact ⟨rfl, HB.out⟩
        · have hn39 : c.toNat ≠ 39 := fun h => k1_ (by rw [← UInt8.toNat_inj]; exact h)
          have b0 : ((c.toNat : Int) == 39) = false := beq_eq_false_iff_ne.mpr (by omega)
          by_cases k2 : c = 45
          · have b1 : ((c.toNat : Int) == 45) = true := by rw [k2]; rfl
            have b2 : decide (97 ≤ (c.toNat : Int)) = false := by rw [k2]; rfl
            have HUp := Aside0.mk (show Lx.upB (s.data.toList.getD j 0) = s.data.toList.getD j 0 by rw [HC.out, k2]; decide)
            have HN := Aside0.mk (HGB.out.keep hjl HUp.out)
            by_cases k3 : j = 0
            · have b3 : decide (0 < (j : Int)) = false := decide_eq_false (by omega)
              have b4 : decide (0 < j) = false := decide_eq_false (by omega)
              have HS1 := Aside0.mk (show Seen s (j + 1) from fun k hk => by
                by_cases e : k = j
                · subst e; exact ⟨by rw [HC.out]; exact k1_, fun h => absurd h (by omega)⟩
                · exact HI.out k (by omega))
              clear k1_ k2 k3 hn39
              go_wp2
              go_roundg k1
              case measure => first | exact Nat.lt_succ_self _ | omega
              case rel => exact ⟨j + 1, by first | rfl | rw [hw1] | (rw [Int.natCast_add]; rfl), HJ1, HS1, HN, HB⟩
            · have b3 : decide (0 < (j : Int)) = true := decide_eq_true (by omega)
              have b4 : decide (0 < j) = true := decide_eq_true (by omega)
              have x1 := HGB.out.cell (j - 1) (by omega)
              have hz : gAt s j (j - 1) = ((Lx.upB (s.data.toList.getD (j - 1) 0)).toNat : Int) := by unfold gAt; rw [if_pos (by omega)]
              rw [hz] at x1
              obtain ⟨d, hd⟩ : ∃ d, s.data.toList.getD (j - 1) 0 = d := ⟨_, rfl⟩
              rw [hd] at x1
              have HD := Aside0.mk hd
              have e1 : (((j : Int) - 1)).toNat = j - 1 := by omega
              have e2 : (0 ≤ (j : Int) - 1) = True := eq_true (by omega)
              have e3 : ((j : Int) - 1 < (s.size : Int)) = True := eq_true (by omega)
              have e4 : ((j : Int) - 1 < 0) = False := eq_false (by omega)
              have e5 : wrap64 ((j : Int) - 1) = (j : Int) - 1 := by unfold wrap64; omega
              have e6 : (1 ≤ (j : Int)) = True := eq_true (by omega)
              have e7 : ((j : Int) < 1) = False := eq_false (by omega)
              clear hz hd
              by_cases k4 : (Lx.upB d).toNat = 45
              · have b5 : (((Lx.upB d).toNat : Int) == 45) = true := by rw [k4]; rfl
                clear k1_ k2 k3 hn39 k4
                go_wp2
                go_ret
                exact ⟨rfl, HB.out⟩
              · have b5 : (((Lx.upB d).toNat : Int) == 45) = false := beq_eq_false_iff_ne.mpr (by omega)
                have HS1 := Aside0.mk (show Seen s (j + 1) from fun k hk => by
                  by_cases e : k = j
                  · subst e; exact ⟨by rw [HC.out]; exact k1_, fun _ h => k4 (by rw [HD.out] at h; rw [h.2]; decide)⟩
                  · exact HI.out k (by omega))
                clear k1_ k2 k3 hn39 k4
                go_wp2
                go_roundg k1
                case measure => first | exact Nat.lt_succ_self _ | omega
                case rel => exact ⟨j + 1, by first | rfl | rw [hw1] | (rw [Int.natCast_add]; rfl), HJ1, HS1, HN, HB⟩
          · have hn45 : c.toNat ≠ 45 := fun h => k2 (by rw [← UInt8.toNat_inj]; exact h)
            have b1 : ((c.toNat : Int) == 45) = false := beq_eq_false_iff_ne.mpr (by omega)
            have HS1 := Aside0.mk (show Seen s (j + 1) from fun k hk => by
              by_cases e : k = j
              · subst e; exact ⟨by rw [HC.out]; exact k1_, fun _ h => k2 (by rw [HC.out] at h; exact h.1)⟩
              · exact HI.out k (by omega))
            by_cases k5 : 97 ≤ (c.toNat : Int)
            · have b2 : decide (97 ≤ (c.toNat : Int)) = true := decide_eq_true k5
              by_cases k6 : (c.toNat : Int) ≤ 122
              · have b3 : decide ((c.toNat : Int) ≤ 122) = true := decide_eq_true k6
                have hf := HGB.out.frozen j hjl
                have HN := Aside0.mk (HGB.out.put (v := (c.toNat : Int) - 32) hjl (by rw [HC.out]; exact up_small k5 k6))
                clear k1_ k2 hn39 hn45
                go_wp2
                go_roundg k1
                case measure => first | exact Nat.lt_succ_self _ | omega
                case rel => exact ⟨j + 1, by first | rfl | rw [hw1] | (rw [Int.natCast_add]; rfl), HJ1, HS1, HN, ⟨HB.out.setCell hbg2 _⟩⟩
              · have b3 : decide ((c.toNat : Int) ≤ 122) = false := decide_eq_false k6
                have HN := Aside0.mk (HGB.out.keep hjl (by rw [HC.out]; exact up_not (fun h => k6 h.2)))
                clear k1_ k2 hn39 hn45
                go_wp2
                go_roundg k1
                case measure => first | exact Nat.lt_succ_self _ | omega
                case rel => exact ⟨j + 1, by first | rfl | rw [hw1] | (rw [Int.natCast_add]; rfl), HJ1, HS1, HN, HB⟩
            · have b2 : decide (97 ≤ (c.toNat : Int)) = false := decide_eq_false k5
              have HN := Aside0.mk (HGB.out.keep hjl (by rw [HC.out]; exact up_not (fun h => k5 h.1)))
              clear k1_ k2 hn39 hn45
              go_wp2
              go_roundg k1
              case measure => first | exact Nat.lt_succ_self _ | omega
              case rel => exact ⟨j + 1, by first | rfl | rw [hw1] | (rw [Int.natCast_add]; rfl), HJ1, HS1, HN, HB⟩
end Go.Proofs.YtcgdncpioafbdaaGreatDoor.Q

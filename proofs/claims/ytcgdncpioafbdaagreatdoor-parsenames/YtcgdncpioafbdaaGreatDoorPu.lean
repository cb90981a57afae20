/- The parser: have two columns, or two sets, one name. -/
import Derived.Test.YtcgdncpioafbdaaGreatDoorPt
import Derived.Maps.OwnSet
namespace Go.Proofs.YtcgdncpioafbdaaGreatDoor.Q
open Go Go.RowKit Go.Maps Go.Proofs.YtcgdncpioafbdaaGreatDoorW.PrintWords

/-- A set of names, as a map reads. -/
def nmapF (D : DataW Unit) (l : List ByteArray) : DataW Unit := l.foldl (fun D s => D.put (.string s.data.toList) (.lit (.bool true))) D
def nmap (l : List ByteArray) : DataW Unit := nmapF (.map []) l
def namesOf (x : S60) : List ByteArray := x.f2.map (·.f0) ++ x.f6.map (·.f0)
def twiceB (x : S60) : Bool := decide (Maps.size (nmap (namesOf x)) < x.f2.length + x.f6.length)
theorem nmap_snoc (l : List ByteArray) (s : ByteArray) : nmap (l ++ [s]) = (nmap l).put (.string s.data.toList) (.lit (.bool true)) := by unfold nmap nmapF; rw [List.foldl_append]; rfl
theorem law9 : Keyed Tryz.prog 9 := string_keyed Tryz.underlying9
theorem col_at {w : World} {ok : Nat → Prop} {A : Option Addr} {xs : List S128} (h : Kd.F k128 w ok A xs.length xs) (j : Nat) (hj : j < xs.length) : ∃ ad, A = some ad ∧ w.cell? (ad.add (j * 3)) = some (.string xs[j].f0) ∧ w.cell? ⟨(ad.add (j * 3)).block, (ad.add (j * 3)).off + 1, none⟩ = some (.int .i64 xs[j].f1) ∧ w.cell? ⟨(ad.add (j * 3)).block, (ad.add (j * 3)).off + 2, none⟩ = some (.int .i64 xs[j].f2) := by
  obtain ⟨ad, e, h0, h1, h2⟩ := at_T128 (Kd.F_now h) (j : Int) (by omega) (by omega)
  have hrd : rd_T128 xs (j : Int) = xs[j] := by unfold rd_T128; rw [Int.toNat_natCast, List.getD_eq_getElem?_getD, List.getElem?_eq_getElem hj]; rfl
  rw [hrd] at h0 h1 h2
  simp only [Int.toNat_natCast] at h0 h1 h2
  exact ⟨ad, e, h0, h1, h2⟩

theorem le_maxLen {n : Nat} (h : n ≤ 100000) : n ≤ maxLen := by unfold maxLen; omega
theorem lt_maxLen {n : Nat} (h : n ≤ 200000) : n < maxLen := by unfold maxLen; omega
set_option maxHeartbeats 4000000 in
set_option maxRecDepth 100000 in
theorem twice_out {w0 : World} {x : S60} {a : Ads} (hF : StA (fun _ => True) w0 x a) (hm : Mod x) (hs : ∀ s ∈ namesOf x, s.size ≤ 100000) : Calls Tryz.prog 107 #[.agg (celA x a)] w0 fun e w' => e = .returned (.bool (twiceB x)) ∧ Below w0.heap.size w0 w' := by
  obtain ⟨A2, C2, A4, C4, A5, C5, A6, C6, A7, C7⟩ := a
  have HF0 := Aside0.mk hF
  have HM := Aside0.mk hm
  have HS := Aside0.mk hs
  clear hF hm hs
  have hmm := @run_makeMap Tryz.prog
  go_enter Tryz.func107, Tryz.ntmps107
  go_upto_region 1 with (fail)
  have BX0 := Aside0.mk (new_blk (W := w0) (.cells (celA x ⟨A2, C2, A4, C4, A5, C5, A6, C6, A7, C7⟩) 60 (0, 0)) rfl)
  have HBW := Aside0.mk (below_alloc (Below.refl w0.heap.size w0) (.cells (celA x ⟨A2, C2, A4, C4, A5, C5, A6, C6, A7, C7⟩) 60 (0, 0)))
  generalize hxb : w0.heap.size = xb at BX0 ⊢
  have hxl : xb < (w0.alloc (.cells (celA x ⟨A2, C2, A4, C4, A5, C5, A6, C6, A7, C7⟩) 60 (0, 0))).heap.size := blk_lt BX0.out
  have HF : Aside0 (StA (fun _ => True) (w0.alloc (.cells (celA x ⟨A2, C2, A4, C4, A5, C5, A6, C6, A7, C7⟩) 60 (0, 0))) x ⟨A2, C2, A4, C4, A5, C5, A6, C6, A7, C7⟩) := ⟨⟨HF0.out.l2, Kd.F_alloc HF0.out.f2 _, HF0.out.l4, Kd.F_alloc HF0.out.f4 _, HF0.out.l5, Kd.F_alloc HF0.out.f5 _, HF0.out.l6, Kd.F_alloc HF0.out.f6 _, HF0.out.l7, Kd.F_alloc HF0.out.f7 _⟩⟩
  clear HF0
  generalize hW : w0.alloc (.cells (celA x ⟨A2, C2, A4, C4, A5, C5, A6, C6, A7, C7⟩) 60 (0, 0)) = w at BX0 HBW HF hxl ⊢
  clear hW
  have HF2 := Aside0.mk (F_old HF.out.f2)
  have HF6 := Aside0.mk (F_old HF.out.f6)
  clear HF
  go_upto_region 2 with (fail)
  have HO1 := Aside0.mk (World.ownsMap_made w Tryz.prog 9 (plainElem (H := Unit) Tryz.prog 4))
  have HB1 := Aside0.mk (below_alloc (Below.refl w.heap.size w) (.map #[] 0))
  generalize hmb : w.heap.size = mb at HO1 ⊢
  generalize hW1 : w.alloc (.map #[] 0) = w1 at HO1 HB1 ⊢
  clear hW1
  have hmw : w.heap.size ≤ mb := by omega
  have BX1 := Aside0.mk ((HB1.out.block xb hxl).trans BX0.out)
  have r2 : w1.cell? ⟨xb, 2, none⟩ = some (.slice A2 x.f2.length C2) := (blk_cell BX1.out 2).trans rfl
  have hz1 := blk_lt BX1.out
  go_wp2
  go_loopg [12] x.f2.length (fun kq v12 w' => ∃ (j : Nat), v12 = .int .i64 (j : Int) ∧ Aside0 (j + kq = x.f2.length) ∧ Aside0 (w'.ownsMap Tryz.prog 9 (plainElem (H := Unit) Tryz.prog 4) mb j (nmap ((x.f2.take j).map (·.f0)))) ∧ Aside0 (Below w.heap.size w w'))
  case atStart => exact ⟨0, rfl, ⟨by omega⟩, HO1, HB1⟩
  case round =>
    clear HO1 HB1
    obtain ⟨j, rfl, HJ, HO, HB⟩ := hrel
    have hjl := HJ.out
    have hll := HM.out.n2
    have hsl := HB.out.size
    cases gk with
    | zero =>
      have d0 : decide (j < x.f2.length) = false := decide_eq_false (by omega)
      have d0i : decide ((j : Int) < (x.f2.length : Int)) = false := decide_eq_false (by omega)
      have hD := HO.out
      rw [List.take_of_length_le (by omega)] at hD
      have HO7 := Aside0.mk (World.ownsMap.mono hD (n' := x.f2.length) (by omega))
      have BX7 := Aside0.mk ((HB.out.block xb hxl).trans BX0.out)
      clear hD hjl hll HJ HO
      go_upto_region 7 with (fail)
      obtain ⟨w7, hw7⟩ : ∃ y, y = wr := ⟨_, rfl⟩
      rw [← hw7] at HO7 BX7 HB ⊢
      clear hw7
      have s6 : w7.cell? ⟨xb, 6, none⟩ = some (.slice A6 x.f6.length C6) := (blk_cell BX7.out 6).trans rfl
      have hz7 := blk_lt BX7.out
      go_wp2
      go_loopg [23] x.f6.length (fun kq v23 w' => ∃ (j : Nat), v23 = .int .i64 (j : Int) ∧ Aside0 (j + kq = x.f6.length) ∧ Aside0 (w'.ownsMap Tryz.prog 9 (plainElem (H := Unit) Tryz.prog 4) mb (x.f2.length + j) (nmap (x.f2.map (·.f0) ++ (x.f6.take j).map (·.f0)))) ∧ Aside0 (Below w.heap.size w w'))
      case atStart => exact ⟨0, rfl, ⟨by omega⟩, ⟨by simpa using HO7.out⟩, HB⟩
      case round =>
        clear HO7 HB BX7
        obtain ⟨j, rfl, HJ, HO, HB⟩ := hrel
        have hjl := HJ.out
        have hll := HM.out.n6
        have hsl := HB.out.size
        cases gk with
        | zero =>
          have d0 : decide (j < x.f6.length) = false := decide_eq_false (by omega)
          have d0i : decide ((j : Int) < (x.f6.length : Int)) = false := decide_eq_false (by omega)
          have hD := HO.out
          rw [List.take_of_length_le (by omega)] at hD
          have HO8 := Aside0.mk hD
          have BX8 := Aside0.mk ((HB.out.block xb hxl).trans BX0.out)
          have hn2 := HM.out.n2
          have hws : wrap64 ((x.f2.length : Int) + (x.f6.length : Int)) = ((x.f2.length + x.f6.length : Nat) : Int) := by unfold wrap64; omega
          have y2 : wr.cell? ⟨xb, 2, none⟩ = some (.slice A2 x.f2.length C2) := (blk_cell BX8.out 2).trans rfl
          have y6 : wr.cell? ⟨xb, 6, none⟩ = some (.slice A6 x.f6.length C6) := (blk_cell BX8.out 6).trans rfl
          have hz8 := blk_lt BX8.out
          clear hD hjl hll hn2
          go_wp2_with (first | (at_len; refine wpList_len_own _ rfl _ 234 rfl 9 4 Tryz.underlying234 _ mb _ _ rfl HO8.out ?_))
          go_ret
          refine ⟨?_, below_step HBW.out HB.out⟩
          have ht : twiceB x = decide ((Maps.size (nmap (x.f2.map (·.f0) ++ x.f6.map (·.f0))) : Int) < (x.f2.length : Int) + (x.f6.length : Int)) := by
            unfold twiceB namesOf
            rw [decide_eq_decide]
            constructor
            · intro h; exact_mod_cast h
            · intro h; exact_mod_cast h
          rw [ht]
          rfl
        | succ k1 =>
          have d0 : decide (j < x.f6.length) = true := decide_eq_true (by omega)
          have d0i : decide ((j : Int) < (x.f6.length : Int)) = true := decide_eq_true (by omega)
          have p1 : 0 ≤ (j : Int) := by omega
          have q1 : (j : Int) < (x.f6.length : Int) := by omega
          have q2 : j < x.f6.length := by omega
          obtain ⟨ad, A0, c0, e0, x0, x1, x2, x3, x4, x5, x6, hl0, hf0⟩ := set_at (Kd.F_step HF6.out (fun q hq _ => HB.out.block q hq)) j q2
          cases e0
          obtain ⟨S, hS⟩ : ∃ S, x.f6[j] = S := ⟨_, rfl⟩
          rw [hS] at x0 x1 x2 x3 x4 x5 x6
          have hn2 := HM.out.n2
          have HNL := Aside0.mk (lt_maxLen (show x.f2.length + j ≤ 200000 by omega))
          clear hn2
          have HJ1 := Aside0.mk (show j + 1 + k1 = x.f6.length by omega)
          have hw1 : wrap64 ((j : Int) + 1) = ((j + 1 : Nat) : Int) := by unfold wrap64; omega
          have HTK := Aside0.mk (show x.f6.take (j + 1) = x.f6.take j ++ [S] by rw [List.take_add_one, List.getElem?_eq_getElem q2, hS]; rfl)
          have HSS := Aside0.mk (show S.f0.size ≤ 100000 from HS.out _ (by unfold namesOf; simp only [List.mem_append, List.mem_map]; exact .inr ⟨S, hS ▸ List.getElem_mem q2, rfl⟩))
          replace p1 := eq_true p1
          replace q1 := eq_true q1
          clear hS hjl hll
          go_upto_region 10 with (fail)
          have BS := Aside0.mk (new_blk (W := wr) (.cells #[.string S.f0, .string S.f1.f0, .int .i64 S.f1.f1.f0, .int .i64 S.f1.f1.f1, .string S.f1.f1.f2, .string S.f1.f2, .slice A0 S.f1.f3.length c0] 90 (0, 0)) rfl)
          have HOW := Aside0.mk (World.ownsMap.kept HO.out (World.grownBy_alloc _ (.cells #[.string S.f0, .string S.f1.f0, .int .i64 S.f1.f1.f0, .int .i64 S.f1.f1.f1, .string S.f1.f1.f2, .string S.f1.f2, .slice A0 S.f1.f3.length c0] 90 (0, 0)) none) (by simp))
          have HBW2 := Aside0.mk (below_alloc HB.out (.cells #[.string S.f0, .string S.f1.f0, .int .i64 S.f1.f1.f0, .int .i64 S.f1.f1.f1, .string S.f1.f1.f2, .string S.f1.f2, .slice A0 S.f1.f3.length c0] 90 (0, 0)))
          generalize hsb : wr.heap.size = sb at BS ⊢
          generalize hW : wr.alloc (.cells #[.string S.f0, .string S.f1.f0, .int .i64 S.f1.f1.f0, .int .i64 S.f1.f1.f1, .string S.f1.f1.f2, .string S.f1.f2, .slice A0 S.f1.f3.length c0] 90 (0, 0)) = W at BS HOW HBW2 ⊢
          clear hsb hW
          have z0 : W.cell? ⟨sb, 0, none⟩ = some (.string S.f0) := (blk_cell BS.out 0).trans rfl
          have hsW := blk_lt BS.out
          obtain ⟨s, hs⟩ : ∃ s, S.f0 = s := ⟨_, rfl⟩
          rw [hs] at z0 HSS
          have HSE := Aside0.mk hs
          clear hs
          go_wp2_with (first | (at_mapUpdate; refine wpList_mapUpdate_own _ rfl _ _ _ 234 rfl 9 4 law9 Tryz.underlying234 _ mb (x.f2.length + j) (nmap (x.f2.map (·.f0) ++ (x.f6.take j).map (·.f0))) rfl HOW.out HNL.out _ _ (.string s.data.toList) rfl rfl (Go.WideMaps.keyOf_string_mk Tryz.underlying9 (le_maxLen HSS.out)) _ [] (plainElem_bool Tryz.underlying4 _) ?_; intro w6 ho hg; have HO6 := Aside0.mk ho; have HB6 := Aside0.mk (HBW2.out.grown hg HBW2.out.size (fun q hq => by cases hq; exact hmw)); clear ho hg))
          go_roundg k1
          case measure => first | exact Nat.lt_succ_self _ | omega
          case rel => exact ⟨j + 1, by rw [hw1], HJ1, ⟨by rw [HTK.out, List.map_append, ← List.append_assoc]; simp only [List.map_cons, List.map_nil]; rw [nmap_snoc, HSE.out]; exact HO6.out⟩, HB6⟩

    | succ k1 =>
      have d0 : decide (j < x.f2.length) = true := decide_eq_true (by omega)
      have d0i : decide ((j : Int) < (x.f2.length : Int)) = true := decide_eq_true (by omega)
      have p1 : 0 ≤ (j : Int) := by omega
      have q1 : (j : Int) < (x.f2.length : Int) := by omega
      have q2 : j < x.f2.length := by omega
      obtain ⟨ad, e0, x0, x1, x2⟩ := col_at (Kd.F_step HF2.out (fun q hq _ => HB.out.block q hq)) j q2
      cases e0
      obtain ⟨S, hS⟩ : ∃ S, x.f2[j] = S := ⟨_, rfl⟩
      rw [hS] at x0 x1 x2
      have hn2 := HM.out.n2
      have HNL := Aside0.mk (lt_maxLen (show j ≤ 200000 by omega))
      clear hn2
      have HJ1 := Aside0.mk (show j + 1 + k1 = x.f2.length by omega)
      have hw1 : wrap64 ((j : Int) + 1) = ((j + 1 : Nat) : Int) := by unfold wrap64; omega
      have HTK := Aside0.mk (show x.f2.take (j + 1) = x.f2.take j ++ [S] by rw [List.take_add_one, List.getElem?_eq_getElem q2, hS]; rfl)
      have HSS := Aside0.mk (show S.f0.size ≤ 100000 from HS.out _ (by unfold namesOf; simp only [List.mem_append, List.mem_map]; exact .inl ⟨S, hS ▸ List.getElem_mem q2, rfl⟩))
      replace p1 := eq_true p1
      replace q1 := eq_true q1
      clear hS hjl hll
      go_upto_region 5 with (fail)
      have BS := Aside0.mk (new_blk (W := wr) (.cells #[.string S.f0, .int .i64 S.f1, .int .i64 S.f2] 128 (0, 0)) rfl)
      have HOW := Aside0.mk (World.ownsMap.kept HO.out (World.grownBy_alloc _ (.cells #[.string S.f0, .int .i64 S.f1, .int .i64 S.f2] 128 (0, 0)) none) (by simp))
      have HBW2 := Aside0.mk (below_alloc HB.out (.cells #[.string S.f0, .int .i64 S.f1, .int .i64 S.f2] 128 (0, 0)))
      generalize hsb : wr.heap.size = sb at BS ⊢
      generalize hW : wr.alloc (.cells #[.string S.f0, .int .i64 S.f1, .int .i64 S.f2] 128 (0, 0)) = W at BS HOW HBW2 ⊢
      clear hsb hW
      have z0 : W.cell? ⟨sb, 0, none⟩ = some (.string S.f0) := (blk_cell BS.out 0).trans rfl
      have hsW := blk_lt BS.out
      obtain ⟨s, hs⟩ : ∃ s, S.f0 = s := ⟨_, rfl⟩
      rw [hs] at z0 HSS
      have HSE := Aside0.mk hs
      clear hs
      go_wp2_with (first | (at_mapUpdate; refine wpList_mapUpdate_own _ rfl _ _ _ 234 rfl 9 4 law9 Tryz.underlying234 _ mb j (nmap ((x.f2.take j).map (·.f0))) rfl HOW.out HNL.out _ _ (.string s.data.toList) rfl rfl (Go.WideMaps.keyOf_string_mk Tryz.underlying9 (le_maxLen HSS.out)) _ [] (plainElem_bool Tryz.underlying4 _) ?_; intro w6 ho hg; have HO6 := Aside0.mk ho; have HB6 := Aside0.mk (HBW2.out.grown hg HBW2.out.size (fun q hq => by cases hq; exact hmw)); clear ho hg))
      go_roundg k1
      case measure => first | exact Nat.lt_succ_self _ | omega
      case rel => exact ⟨j + 1, by rw [hw1], HJ1, ⟨by rw [HTK.out, List.map_append]; simp only [List.map_cons, List.map_nil]; rw [nmap_snoc, HSE.out]; exact HO6.out⟩, HB6⟩

end Go.Proofs.YtcgdncpioafbdaaGreatDoor.Q

/- The parser: read, with its deferred closure. -/
import Derived.Test.YtcgdncpioafbdaaGreatDoorPo
import Derived.Defers
import Derived.Recover
import Derived.Laws.Pointers
namespace Go.Proofs.YtcgdncpioafbdaaGreatDoor.Q
open Go Go.RowKit Go.Proofs.YtcgdncpioafbdaaGreatDoorW.PrintWords

set_option maxRecDepth 100000 in
theorem catch_idle (p q : Value) (w : World) :
    CallsD Tryz.prog 178 #[p, q] .returning w fun e u' w' => e = .returned (.tuple #[]) ∧ u' = .returning ∧ w' = w := by
  refine callsD_of_wpS Tryz.func178 rfl fun c₀ cs hu => ?_
  apply wpS_seq
  apply wpS_region
  simp [wpOpsS, go_sem, recoverD, hu, Tryz.ntmps178, Exit.thenS]
  apply wpS_seq
  apply wpS_region
  simp [wpOpsS, go_sem, Exit.thenS]
  refine wpS_cond (t := false) (by simp [Act.eval, Array.replicate]) ?_
  simp only [Bool.false_eq_true, if_false]
  refine wpS_of_wp (wp_skip ?_)
  cases c₀
  simp_all [bodyPostS, results, Tryz.results178]

/-- What the closure leaves when it swallows the parser's panic. -/
def IdlePost (sb ob : Nat) (w w' : World) : Prop := w.heap.size ≤ w'.heap.size ∧ w'.os = w.os ∧ w'.tape = w.tape ∧ w'.output = w.output ∧ (∀ i, i < w.heap.size → i ≠ sb → i ≠ ob → w'.heap[i]? = w.heap[i]?) ∧ w'.heap[sb]? = some (.cells (celA z60 {}) 60 (0, 0)) ∧ w'.heap[ob]? = some (.cells #[.bool false] 4 (0, 0))

theorem IdlePost.s {sb ob : Nat} {w w' : World} (h : IdlePost sb ob w w') (hne : ob ≠ sb) (j : Nat) (v : Value) (e : (celA z60 {}).setIfInBounds j v = celA z60 {}) : IdlePost sb ob w (w'.setCell ⟨sb, j, none⟩ v) := by
  obtain ⟨h1, h2, h3, h4, h5, h6, h7⟩ := h
  have hc : Below 0 w' (w'.setCell ⟨sb, j, none⟩ v) := ((Below.refl w'.heap.size w').mono (Nat.zero_le _)).setCell (Nat.zero_le _) v
  refine ⟨Nat.le_trans h1 hc.size, hc.os.trans h2, hc.tape.trans h3, hc.output.trans h4, fun i hi hs ho => (Below.heap_setCell w' ⟨sb, j, none⟩ v i hs).trans (h5 i hi hs ho), ?_, blk_setNe h7 hne _ _⟩
  have := blk_put h6 j v rfl
  rw [e] at this
  exact this
theorem IdlePost.o {sb ob : Nat} {w w' : World} (h : IdlePost sb ob w w') (hne : sb ≠ ob) : IdlePost sb ob w (w'.setCell ⟨ob, 0, none⟩ (.bool false)) := by
  obtain ⟨h1, h2, h3, h4, h5, h6, h7⟩ := h
  have hc : Below 0 w' (w'.setCell ⟨ob, 0, none⟩ (.bool false)) := ((Below.refl w'.heap.size w').mono (Nat.zero_le _)).setCell (Nat.zero_le _) _
  exact ⟨Nat.le_trans h1 hc.size, hc.os.trans h2, hc.tape.trans h3, hc.output.trans h4, fun i hi hs ho => (Below.heap_setCell w' ⟨ob, 0, none⟩ _ i ho).trans (h5 i hi hs ho), blk_setNe h6 hne _ _, blk_put h7 0 _ rfl⟩

set_option maxHeartbeats 400000 in
set_option maxRecDepth 100000 in
theorem catch_failed (sb ob : Nat) (hso : sb < ob) (w : World) (hs : w.heap[sb]? = some (.cells (celA z60 {}) 60 (0, 0))) (ho : w.heap[ob]? = some (.cells #[.bool false] 4 (0, 0))) :
    CallsD Tryz.prog 178 #[.pointer (some ⟨sb, 0, none⟩), .pointer (some ⟨ob, 0, none⟩)] (.panicking failedV) w fun e u' w' => e = .returned (.tuple #[]) ∧ u' = .panicking [{ v := .iface 227 (.agg #[]), recovered := true }] ∧ IdlePost sb ob w w' := by
  have hta : ∀ w : World, (Instr.typeAssert (.iface 227 (.agg #[])) 20 227 true).run Tryz.prog w = .ok (.tuple #[.agg #[], .bool true]) w := fun _ => by kernel_rfl
  have HS0 := Aside0.mk hs
  have HO0 := Aside0.mk ho
  clear hs ho
  refine callsD_of_wpS Tryz.func178 rfl fun c₀ cs hu => ?_
  have HU := Aside0.mk hu
  apply wpS_seq
  apply wpS_region
  simp [wpOpsS, go_sem, recoverD, hu, failedV, Tryz.ntmps178, Exit.thenS]
  apply wpS_seq
  apply wpS_region
  simp [wpOpsS, go_sem, Exit.thenS]
  refine wpS_cond (t := true) (by simp [Act.eval, Array.replicate]) ?_
  simp only [if_true]
  refine wpS_of_wp (Code.wp_mono (Q := fun e a' w' => e = .normal ∧ a'.defers = [] ∧ IdlePost sb ob w w') ?_ ?_)
  · rintro e a' w' ⟨rfl, hd, hp⟩
    cases c₀
    simp_all [bodyPostS, results, Tryz.results178, IdlePost]
  · clear HU hu
    change Code.wp _ _ _ (⟨#[.pointer (some ⟨sb, 0, none⟩), .pointer (some ⟨ob, 0, none⟩), .iface 227 (.agg #[]), undef, undef, .iface 227 (.agg #[]), .iface 227 (.agg #[]), .bool true, undef, undef, undef, undef, undef, undef, undef, undef, undef], []⟩ : Act) w
    go_upto_region 3 with (fail)
    obtain ⟨W, hW⟩ : ∃ W, W = w.alloc (.cells #[] 227 (0, 0)) := ⟨_, rfl⟩
    rw [← hW]
    have HS := Aside0.mk (show W.heap[sb]? = _ from hW ▸ blk_alloc HS0.out _)
    have HO := Aside0.mk (show W.heap[ob]? = _ from hW ▸ blk_alloc HO0.out _)
    have HB := Aside0.mk (show Below w.heap.size w W from hW ▸ below_alloc (Below.refl _ _) _)
    clear hW
    have hsl := blk_lt HS.out
    have hol := blk_lt HO.out
    have oc0 : W.cell? ⟨ob, 0, none⟩ = some (.bool false) := (blk_cell HO.out 0).trans rfl
    have oz0 := blk_frozen HO.out 0
    have rc0 : W.cell? ⟨sb, 0, none⟩ = some (.int .i64 0) := (blk_cell HS.out 0).trans rfl
    have rc1 : W.cell? ⟨sb, 1, none⟩ = some (.string ⟨#[]⟩) := (blk_cell HS.out 1).trans rfl
    have rc2 : W.cell? ⟨sb, 2, none⟩ = some (.slice none 0 0) := (blk_cell HS.out 2).trans rfl
    have rc3 : W.cell? ⟨sb, 3, none⟩ = some (.string ⟨#[]⟩) := (blk_cell HS.out 3).trans rfl
    have rc4 : W.cell? ⟨sb, 4, none⟩ = some (.slice none 0 0) := (blk_cell HS.out 4).trans rfl
    have rc5 : W.cell? ⟨sb, 5, none⟩ = some (.slice none 0 0) := (blk_cell HS.out 5).trans rfl
    have rc6 : W.cell? ⟨sb, 6, none⟩ = some (.slice none 0 0) := (blk_cell HS.out 6).trans rfl
    have rc7 : W.cell? ⟨sb, 7, none⟩ = some (.slice none 0 0) := (blk_cell HS.out 7).trans rfl
    have rc8 : W.cell? ⟨sb, 8, none⟩ = some (.string ⟨#[]⟩) := (blk_cell HS.out 8).trans rfl
    have rc9 : W.cell? ⟨sb, 9, none⟩ = some (.bool false) := (blk_cell HS.out 9).trans rfl
    have rc10 : W.cell? ⟨sb, 10, none⟩ = some (.int .i64 0) := (blk_cell HS.out 10).trans rfl
    have rz0 := blk_frozen HS.out 0
    have rz1 := blk_frozen HS.out 1
    have rz2 := blk_frozen HS.out 2
    have rz3 := blk_frozen HS.out 3
    have rz4 := blk_frozen HS.out 4
    have rz5 := blk_frozen HS.out 5
    have rz6 := blk_frozen HS.out 6
    have rz7 := blk_frozen HS.out 7
    have rz8 := blk_frozen HS.out 8
    have rz9 := blk_frozen HS.out 9
    have rz10 := blk_frozen HS.out 10
    have hne : ob ≠ sb := by omega
    have hne' : sb ≠ ob := by omega
    go_wp2
    have HI : Aside0 (IdlePost sb ob w W) := ⟨⟨HB.out.size, HB.out.os, HB.out.tape, HB.out.output, fun i hi _ _ => HB.out.block i hi, HS.out, HO.out⟩⟩
    with_reducible (repeat (first | exact HI.out | refine IdlePost.o ?_ hne' | refine IdlePost.s ?_ hne _ _ rfl))

/-- read's own blocks. -/
structure RD (w : World) (sb ob g : Nat) (ts : List S32) (W : World) : Prop where
  ps : PS w g ts W
  s : W.heap[sb]? = some (.cells (celA z60 {}) 60 (0, 0))
  o : W.heap[ob]? = some (.cells #[.bool false] 4 (0, 0))
  below : Below w.heap.size w W
  o1 : w.heap.size ≤ sb
  o2 : sb < ob
  o3 : ob < g
theorem RD.start {w : World} {A : Option Addr} {c : Nat} {ts : List S32} (hC : k32.C w A ts.length ts) (hc : ts.length ≤ c) (he : Ends ts) : RD w w.heap.size (w.heap.size + 1) (w.heap.size + 1 + 1) ts (((w.alloc (.cells (celA z60 {}) 60 (0, 0))).alloc (.cells #[.bool false] 4 (0, 0))).alloc (.cells #[.slice A ts.length c] 231 (0, 0))) := by
  have e1 : (w.alloc (.cells (celA z60 {}) 60 (0, 0))).heap.size = w.heap.size + 1 := by simp
  have e2 : ((w.alloc (.cells (celA z60 {}) 60 (0, 0))).alloc (.cells #[.bool false] 4 (0, 0))).heap.size = w.heap.size + 1 + 1 := by simp
  have hB : Below w.heap.size w (((w.alloc (.cells (celA z60 {}) 60 (0, 0))).alloc (.cells #[.bool false] 4 (0, 0))).alloc (.cells #[.slice A ts.length c] 231 (0, 0))) := below_alloc (below_alloc (below_alloc (Below.refl _ _) _) _) _
  exact ⟨⟨by omega, by simp, hB, ⟨A, c, hc, hC, new_blk _ e2⟩, he⟩, blk_alloc (blk_alloc (new_blk _ rfl) _) _, blk_alloc (new_blk _ e1) _, hB, Nat.le_refl _, by omega, by omega⟩
/-- What read does. -/
def OutR (w : World) (m : Option S60) (e : Ending) (w' : World) : Prop :=
  Below w.heap.size w w' ∧ ∃ v, e = .returned (.tuple #[v, .bool m.isSome]) ∧ Vst w.heap.size w' (m.getD z60) v
theorem vst_zero (B : Nat) (w : World) : Vst B w z60 (.agg (celA z60 {})) := ⟨{}, rfl, ⟨Nat.le_refl _, Kd.F_nil _ _ _, Nat.le_refl _, Kd.F_nil _ _ _, Nat.le_refl _, Kd.F_nil _ _ _, Nat.le_refl _, Kd.F_nil _ _ _, Nat.le_refl _, Kd.F_nil _ _ _⟩⟩

theorem blk_put11 {w : World} {g : Nat} {a0 a1 a2 a3 a4 a5 a6 a7 a8 a9 a10 v0 v1 v2 v3 v4 v5 v6 v7 v8 v9 v10 : Value} (h : w.heap[g]? = some (.cells #[a0, a1, a2, a3, a4, a5, a6, a7, a8, a9, a10] 60 (0, 0))) :
    (((((((((((w.setCell ⟨g, 0, none⟩ v0).setCell ⟨g, 1, none⟩ v1).setCell ⟨g, 2, none⟩ v2).setCell ⟨g, 3, none⟩ v3).setCell ⟨g, 4, none⟩ v4).setCell ⟨g, 5, none⟩ v5).setCell ⟨g, 6, none⟩ v6).setCell ⟨g, 7, none⟩ v7).setCell ⟨g, 8, none⟩ v8).setCell ⟨g, 9, none⟩ v9).setCell ⟨g, 10, none⟩ v10).heap[g]? = some (.cells #[v0, v1, v2, v3, v4, v5, v6, v7, v8, v9, v10] 60 (0, 0)) := by
  have h1 := blk_put (cs' := #[v0, a1, a2, a3, a4, a5, a6, a7, a8, a9, a10]) h 0 v0 rfl
  have h2 := blk_put (cs' := #[v0, v1, a2, a3, a4, a5, a6, a7, a8, a9, a10]) h1 1 v1 rfl
  have h3 := blk_put (cs' := #[v0, v1, v2, a3, a4, a5, a6, a7, a8, a9, a10]) h2 2 v2 rfl
  have h4 := blk_put (cs' := #[v0, v1, v2, v3, a4, a5, a6, a7, a8, a9, a10]) h3 3 v3 rfl
  have h5 := blk_put (cs' := #[v0, v1, v2, v3, v4, a5, a6, a7, a8, a9, a10]) h4 4 v4 rfl
  have h6 := blk_put (cs' := #[v0, v1, v2, v3, v4, v5, a6, a7, a8, a9, a10]) h5 5 v5 rfl
  have h7 := blk_put (cs' := #[v0, v1, v2, v3, v4, v5, v6, a7, a8, a9, a10]) h6 6 v6 rfl
  have h8 := blk_put (cs' := #[v0, v1, v2, v3, v4, v5, v6, v7, a8, a9, a10]) h7 7 v7 rfl
  have h9 := blk_put (cs' := #[v0, v1, v2, v3, v4, v5, v6, v7, v8, a9, a10]) h8 8 v8 rfl
  have h10 := blk_put (cs' := #[v0, v1, v2, v3, v4, v5, v6, v7, v8, v9, a10]) h9 9 v9 rfl
  have h11 := blk_put (cs' := #[v0, v1, v2, v3, v4, v5, v6, v7, v8, v9, v10]) h10 10 v10 rfl
  exact h11
abbrev fillW (W : World) (sb ob : Nat) (v0 v1 v2 v3 v4 v5 v6 v7 v8 v9 v10 : Value) (b : Bool) : World := ((((((((((((W.setCell ⟨sb, 0, none⟩ v0).setCell ⟨sb, 1, none⟩ v1).setCell ⟨sb, 2, none⟩ v2).setCell ⟨sb, 3, none⟩ v3).setCell ⟨sb, 4, none⟩ v4).setCell ⟨sb, 5, none⟩ v5).setCell ⟨sb, 6, none⟩ v6).setCell ⟨sb, 7, none⟩ v7).setCell ⟨sb, 8, none⟩ v8).setCell ⟨sb, 9, none⟩ v9).setCell ⟨sb, 10, none⟩ v10).setCell ⟨ob, 0, none⟩ (.bool b))
theorem fill_s {W : World} {sb ob : Nat} (hs : W.heap[sb]? = some (.cells (celA z60 {}) 60 (0, 0))) (hne : sb ≠ ob) (v0 v1 v2 v3 v4 v5 v6 v7 v8 v9 v10 : Value) (b : Bool) : (fillW W sb ob v0 v1 v2 v3 v4 v5 v6 v7 v8 v9 v10 b).heap[sb]? = some (.cells #[v0, v1, v2, v3, v4, v5, v6, v7, v8, v9, v10] 60 (0, 0)) :=
  blk_setNe (blk_put11 (a0 := .int .i64 0) (a1 := .string ⟨#[]⟩) (a2 := .slice none 0 0) (a3 := .string ⟨#[]⟩) (a4 := .slice none 0 0) (a5 := .slice none 0 0) (a6 := .slice none 0 0) (a7 := .slice none 0 0) (a8 := .string ⟨#[]⟩) (a9 := .bool false) (a10 := .int .i64 0) hs) hne 0 (.bool b)
theorem fill_o {W : World} {sb ob : Nat} (ho : W.heap[ob]? = some (.cells #[.bool false] 4 (0, 0))) (hne : ob ≠ sb) (v0 v1 v2 v3 v4 v5 v6 v7 v8 v9 v10 : Value) (b : Bool) : (fillW W sb ob v0 v1 v2 v3 v4 v5 v6 v7 v8 v9 v10 b).heap[ob]? = some (.cells #[.bool b] 4 (0, 0)) :=
  blk_put (blk_setNe (blk_setNe (blk_setNe (blk_setNe (blk_setNe (blk_setNe (blk_setNe (blk_setNe (blk_setNe (blk_setNe (blk_setNe ho hne 0 v0) hne 1 v1) hne 2 v2) hne 3 v3) hne 4 v4) hne 5 v5) hne 6 v6) hne 7 v7) hne 8 v8) hne 9 v9) hne 10 v10) 0 (.bool b) rfl
theorem fill_b {w W : World} {B sb ob : Nat} (h : Below B w W) (hs : B ≤ sb) (ho : B ≤ ob) (v0 v1 v2 v3 v4 v5 v6 v7 v8 v9 v10 : Value) (b : Bool) : Below B w (fillW W sb ob v0 v1 v2 v3 v4 v5 v6 v7 v8 v9 v10 b) := by
  unfold fillW
  with_reducible (repeat (first | exact h | refine Below.setCell (p := ⟨sb, _, none⟩) ?_ hs _ | refine Below.setCell (p := ⟨ob, _, none⟩) ?_ ho _))
theorem fill_f {W : World} {B sb ob : Nat} {x : S60} {a : Ads} (h : StA (fun q => B ≤ q) W x a) (hs : sb < B) (ho : ob < B) (v0 v1 v2 v3 v4 v5 v6 v7 v8 v9 v10 : Value) (b : Bool) : StA (fun q => B ≤ q) (fillW W sb ob v0 v1 v2 v3 v4 v5 v6 v7 v8 v9 v10 b) x a := by
  unfold fillW
  have h1 : ∀ q, B ≤ q → q ≠ sb := fun q hq => by omega
  have h2 : ∀ q, B ≤ q → q ≠ ob := fun q hq => by omega
  with_reducible (repeat (first | exact h | refine StF.far ?_ h1 _ _ | refine StF.far ?_ h2 _ _))
set_option maxRecDepth 100000 in
theorem res105 {W : World} {sb ob : Nat} {x : S60} {a : Ads} {b : Bool} {tmps : Array Value} (hs : W.heap[sb]? = some (.cells (celA x a) 60 (0, 0))) (ho : W.heap[ob]? = some (.cells #[.bool b] 4 (0, 0))) (h2 : tmps[2]?.getD undef = .pointer (some ⟨sb, 0, none⟩)) (h3 : tmps[3]?.getD undef = .pointer (some ⟨ob, 0, none⟩)) : (results Tryz.f105 tmps).run Tryz.prog W = .ok (.tuple #[.agg (celA x a), .bool b]) W := by
  have HS := Aside0.mk hs
  have hsl := blk_lt hs
  have hol := blk_lt ho
  have oc0 : W.cell? ⟨ob, 0, none⟩ = some (.bool b) := (blk_cell ho 0).trans rfl
  have rc0 : W.cell? ⟨sb, 0, none⟩ = some (.int .i64 x.f0) := (blk_cell HS.out 0).trans rfl
  have rc1 : W.cell? ⟨sb, 1, none⟩ = some (.string x.f1) := (blk_cell HS.out 1).trans rfl
  have rc2 : W.cell? ⟨sb, 2, none⟩ = some (.slice a.a2 x.f2.length a.c2) := (blk_cell HS.out 2).trans rfl
  have rc3 : W.cell? ⟨sb, 3, none⟩ = some (.string x.f3) := (blk_cell HS.out 3).trans rfl
  have rc4 : W.cell? ⟨sb, 4, none⟩ = some (.slice a.a4 x.f4.length a.c4) := (blk_cell HS.out 4).trans rfl
  have rc5 : W.cell? ⟨sb, 5, none⟩ = some (.slice a.a5 x.f5.length a.c5) := (blk_cell HS.out 5).trans rfl
  have rc6 : W.cell? ⟨sb, 6, none⟩ = some (.slice a.a6 x.f6.length a.c6) := (blk_cell HS.out 6).trans rfl
  have rc7 : W.cell? ⟨sb, 7, none⟩ = some (.slice a.a7 x.f7.length a.c7) := (blk_cell HS.out 7).trans rfl
  have rc8 : W.cell? ⟨sb, 8, none⟩ = some (.string x.f8) := (blk_cell HS.out 8).trans rfl
  have rc9 : W.cell? ⟨sb, 9, none⟩ = some (.bool x.f9) := (blk_cell HS.out 9).trans rfl
  have rc10 : W.cell? ⟨sb, 10, none⟩ = some (.int .i64 x.f10) := (blk_cell HS.out 10).trans rfl
  clear hs ho
  simp [results, Tryz.results105, go_sem, h2, h3, celA, cells60, rc0, rc1, rc2, rc3, rc4, rc5, rc6, rc7, rc8, rc9, rc10, oc0, hsl, hol]

set_option maxHeartbeats 2000000 in
set_option maxRecDepth 100000 in
theorem read_out {w : World} {A : Option Addr} {c : Nat} {ts : List S32} (hC : k32.C w A ts.length ts) (hc : ts.length ≤ c) (he : Ends ts) {k : Nat} (hk : 2 * ts.length + 1 ≤ k) (hn : ts.length ≤ 4001) : Calls Tryz.prog 105 #[.slice A ts.length c] w (OutR w (Ps.read k ts)) := by
  obtain ⟨t, r, rfl⟩ := he.cons
  obtain ⟨ad, rfl, c0, c1, c2⟩ := at_T32 hC 0 (by omega) (by simp)
  simp only [rd_T32, List.getD_cons_zero, Int.toNat_zero, Nat.zero_mul, addr0] at c0
  clear c1 c2
  have HC0 := Aside0.mk c0
  have HR := Aside0.mk (show RD w w.heap.size (w.heap.size + 1) (w.heap.size + 1 + 1) (t :: r) (((w.alloc (.cells (celA z60 {}) 60 (0, 0))).alloc (.cells #[.bool false] 4 (0, 0))).alloc (.cells #[.slice (some ad) (r.length + 1) c] 231 (0, 0))) from RD.start hC hc he)
  clear c0 hC he
  go_enter_defers Tryz.func105, Tryz.ntmps105
  go_upto_region 3 with (fail)
  change Code.wp _ _ _ _ (((w.alloc (.cells (celA z60 {}) 60 (0, 0))).alloc (.cells #[.bool false] 4 (0, 0))).alloc (.cells #[.slice (some ad) (r.length + 1) c] 231 (0, 0)))
  generalize hW : (((w.alloc (.cells (celA z60 {}) 60 (0, 0))).alloc (.cells #[.bool false] 4 (0, 0))).alloc (.cells #[.slice (some ad) (r.length + 1) c] 231 (0, 0))) = W at HR ⊢
  generalize hg : w.heap.size + 1 + 1 = g at HR ⊢
  generalize hob : w.heap.size + 1 = ob at HR ⊢
  generalize hsb : w.heap.size = sb at HR ⊢
  clear hW hg hob hsb
  have c0 := pw_cell_below HR.out.below HC0.out
  have hal := World.block_lt_of_cell? W _ c0
  have HS := Aside0.mk HR.out.s
  have HO := Aside0.mk HR.out.o
  have hso := HR.out.o2
  have hog := HR.out.o3
  have hws := HR.out.o1
  have hsl := blk_lt HS.out
  have hol := blk_lt HO.out
  have hne : ob ≠ sb := by omega
  have hne' : sb ≠ ob := by omega
  have hgn : g ≠ sb := by omega
  have hgo : g ≠ ob := by omega
  clear HC0
  by_cases k1 : t.f0 = 1
  · have b1 : (t.f0 != 1) = false := bne_eq_false_iff_eq.mpr k1
    cases hx : Ps.stmt k (t :: r) with
    | none =>
      have HX := Aside0.mk hx
      have HM := Aside0.mk (show Ps.read k (t :: r) = none by simp only [Ps.read, if_pos k1, hx])
      clear hx k1
      go_wp2_with (first | (go_at_call 179; refine (stmt_out HR.out.ps (k := k) hk hn).mono ?_; intro e1 w1 ho; obtain ⟨hgr, rfl⟩ := ho.none HX.out; have HG := Aside0.mk hgr; have HS1 := Aside0.mk (hgr.blk HS.out (by omega)); have HO1 := Aside0.mk (hgr.blk HO.out (by omega)); clear ho hgr))
      refine leaves_cons (f := 178) (args := #[.pointer (some ⟨sb, 0, none⟩), .pointer (some ⟨ob, 0, none⟩)]) (by simp) (by simp [go_sem]) ?_
      refine (catch_failed sb ob hso w1 HS1.out HO1.out).mono ?_
      rintro e u' w2 ⟨rfl, rfl, hp⟩
      obtain ⟨p1, p2, p3, p4, p5, p6, p7⟩ := hp
      refine ⟨_, res105 (x := z60) (a := {}) p6 p7 rfl rfl, ?_, .agg (celA z60 {}), by rw [HM.out]; rfl, by rw [HM.out]; exact vst_zero _ _⟩
      have hbw := HR.out.below
      have hgw := HG.out
      exact ⟨p2.trans (hgw.os.trans hbw.os), p3.trans (hgw.tape.trans hbw.tape), p4.trans (hgw.output.trans hbw.output), Nat.le_trans hbw.size (Nat.le_trans hgw.size p1), fun i hi => by
        have hiW : i < W.heap.size := Nat.lt_of_lt_of_le hi hbw.size
        have hi1 : i < w1.heap.size := Nat.lt_of_lt_of_le hiW hgw.size
        rw [p5 i hi1 (by omega) (by omega), hgw.block i hiW (by omega), hbw.block i hi]⟩
    | some x =>
      have HX := Aside0.mk hx
      have HM := Aside0.mk (show Ps.read k (t :: r) = some x by simp only [Ps.read, if_pos k1, hx])
      clear hx k1
      go_upto_region 5 with (fail)
      go_wp2_with (first | (go_at_call 179; refine (stmt_out HR.out.ps (k := k) hk hn).mono ?_; intro e1 w1 ho; obtain ⟨hgr, v, rfl, hv⟩ := ho.some HX.out; obtain ⟨a, rfl, hf⟩ := hv; have HG := Aside0.mk hgr; have HF := Aside0.mk hf; have HS1 := Aside0.mk (hgr.blk HS.out (by omega)); have HO1 := Aside0.mk (hgr.blk HO.out (by omega)); clear ho hgr hf; have rc0 : w1.cell? ⟨sb, 0, none⟩ = some (.int .i64 0) := (blk_cell HS1.out 0).trans rfl; have rc1 : w1.cell? ⟨sb, 1, none⟩ = some (.string ⟨#[]⟩) := (blk_cell HS1.out 1).trans rfl; have rc2 : w1.cell? ⟨sb, 2, none⟩ = some (.slice none 0 0) := (blk_cell HS1.out 2).trans rfl; have rc3 : w1.cell? ⟨sb, 3, none⟩ = some (.string ⟨#[]⟩) := (blk_cell HS1.out 3).trans rfl; have rc4 : w1.cell? ⟨sb, 4, none⟩ = some (.slice none 0 0) := (blk_cell HS1.out 4).trans rfl; have rc5 : w1.cell? ⟨sb, 5, none⟩ = some (.slice none 0 0) := (blk_cell HS1.out 5).trans rfl; have rc6 : w1.cell? ⟨sb, 6, none⟩ = some (.slice none 0 0) := (blk_cell HS1.out 6).trans rfl; have rc7 : w1.cell? ⟨sb, 7, none⟩ = some (.slice none 0 0) := (blk_cell HS1.out 7).trans rfl; have rc8 : w1.cell? ⟨sb, 8, none⟩ = some (.string ⟨#[]⟩) := (blk_cell HS1.out 8).trans rfl; have rc9 : w1.cell? ⟨sb, 9, none⟩ = some (.bool false) := (blk_cell HS1.out 9).trans rfl; have rc10 : w1.cell? ⟨sb, 10, none⟩ = some (.int .i64 0) := (blk_cell HS1.out 10).trans rfl; have rz0 := blk_frozen HS1.out 0; have rz1 := blk_frozen HS1.out 1; have rz2 := blk_frozen HS1.out 2; have rz3 := blk_frozen HS1.out 3; have rz4 := blk_frozen HS1.out 4; have rz5 := blk_frozen HS1.out 5; have rz6 := blk_frozen HS1.out 6; have rz7 := blk_frozen HS1.out 7; have rz8 := blk_frozen HS1.out 8; have rz9 := blk_frozen HS1.out 9; have rz10 := blk_frozen HS1.out 10; have oc0 : w1.cell? ⟨ob, 0, none⟩ = some (.bool false) := (blk_cell HO1.out 0).trans rfl; have oz0 := blk_frozen HO1.out 0; unfold celA cells60))
      refine leaves_cons (f := 178) (args := #[.pointer (some ⟨sb, 0, none⟩), .pointer (some ⟨ob, 0, none⟩)]) (by simp) (by simp [go_sem]) ?_
      refine (catch_idle _ _ _).mono ?_
      rintro e u' w2 ⟨rfl, rfl, rfl⟩
      have hbw := HR.out.below
      have hgw := HG.out
      have hWB : w.heap.size ≤ W.heap.size := hbw.size
      have hb1 : Below w.heap.size w w1 := ⟨hgw.os.trans hbw.os, hgw.tape.trans hbw.tape, hgw.output.trans hbw.output, Nat.le_trans hbw.size hgw.size, fun i hi => by
        have hiW : i < W.heap.size := Nat.lt_of_lt_of_le hi hbw.size
        rw [hgw.block i hiW (by omega), hbw.block i hi]⟩
      refine ⟨_, res105 (x := x) (a := a) (fill_s HS1.out hne' _ _ _ _ _ _ _ _ _ _ _ true) (fill_o HO1.out hne _ _ _ _ _ _ _ _ _ _ _ true) rfl rfl, fill_b hb1 (by omega) (by omega) _ _ _ _ _ _ _ _ _ _ _ true, .agg (celA x a), by rw [HM.out]; rfl, ?_⟩
      rw [HM.out]
      exact ⟨a, rfl, StF.mono (fill_f HF.out (by omega) (by omega) _ _ _ _ _ _ _ _ _ _ _ true) (fun q hq => Nat.le_trans hWB hq)⟩
  · have b1 : (t.f0 != 1) = true := bne_iff_ne.mpr k1
    have HM := Aside0.mk (show Ps.read k (t :: r) = none by simp only [Ps.read, if_neg k1])
    clear k1
    have rc0 : W.cell? ⟨sb, 0, none⟩ = some (.int .i64 0) := (blk_cell HS.out 0).trans rfl
    have rc1 : W.cell? ⟨sb, 1, none⟩ = some (.string ⟨#[]⟩) := (blk_cell HS.out 1).trans rfl
    have rc2 : W.cell? ⟨sb, 2, none⟩ = some (.slice none 0 0) := (blk_cell HS.out 2).trans rfl
    have rc3 : W.cell? ⟨sb, 3, none⟩ = some (.string ⟨#[]⟩) := (blk_cell HS.out 3).trans rfl
    have rc4 : W.cell? ⟨sb, 4, none⟩ = some (.slice none 0 0) := (blk_cell HS.out 4).trans rfl
    have rc5 : W.cell? ⟨sb, 5, none⟩ = some (.slice none 0 0) := (blk_cell HS.out 5).trans rfl
    have rc6 : W.cell? ⟨sb, 6, none⟩ = some (.slice none 0 0) := (blk_cell HS.out 6).trans rfl
    have rc7 : W.cell? ⟨sb, 7, none⟩ = some (.slice none 0 0) := (blk_cell HS.out 7).trans rfl
    have rc8 : W.cell? ⟨sb, 8, none⟩ = some (.string ⟨#[]⟩) := (blk_cell HS.out 8).trans rfl
    have rc9 : W.cell? ⟨sb, 9, none⟩ = some (.bool false) := (blk_cell HS.out 9).trans rfl
    have rc10 : W.cell? ⟨sb, 10, none⟩ = some (.int .i64 0) := (blk_cell HS.out 10).trans rfl
    have rz0 := blk_frozen HS.out 0
    have rz1 := blk_frozen HS.out 1
    have rz2 := blk_frozen HS.out 2
    have rz3 := blk_frozen HS.out 3
    have rz4 := blk_frozen HS.out 4
    have rz5 := blk_frozen HS.out 5
    have rz6 := blk_frozen HS.out 6
    have rz7 := blk_frozen HS.out 7
    have rz8 := blk_frozen HS.out 8
    have rz9 := blk_frozen HS.out 9
    have rz10 := blk_frozen HS.out 10
    have oc0 : W.cell? ⟨ob, 0, none⟩ = some (.bool false) := (blk_cell HO.out 0).trans rfl
    have oz0 := blk_frozen HO.out 0
    go_wp2
    refine leaves_cons (f := 178) (args := #[.pointer (some ⟨sb, 0, none⟩), .pointer (some ⟨ob, 0, none⟩)]) (by simp) (by simp [go_sem]) ?_
    refine (catch_idle _ _ _).mono ?_
    rintro e u' w2 ⟨rfl, rfl, rfl⟩
    refine ⟨_, res105 (x := z60) (a := {}) (fill_s HS.out hne' _ _ _ _ _ _ _ _ _ _ _ false) (fill_o HO.out hne _ _ _ _ _ _ _ _ _ _ _ false) rfl rfl, fill_b HR.out.below (by omega) (by omega) _ _ _ _ _ _ _ _ _ _ _ false, .agg (celA z60 {}), by rw [HM.out]; rfl, by rw [HM.out]; exact vst_zero _ _⟩
end Go.Proofs.YtcgdncpioafbdaaGreatDoor.Q

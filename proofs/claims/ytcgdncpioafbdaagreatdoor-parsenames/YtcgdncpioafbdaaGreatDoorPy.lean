/- The parser: op and val; how an expression is handed on. -/
import Derived.Test.YtcgdncpioafbdaaGreatDoorPx
import Derived.Test.YtcgdncpioafbdaaGreatDoorPl
import Derived.Deep.RegionHeld3
namespace Go.Proofs.YtcgdncpioafbdaaGreatDoor.Q
open Go Go.RowKit Go.Proofs.YtcgdncpioafbdaaGreatDoorW.PrintWords

/-- An expression's cells. -/
def cells43 (x : S43) (A : Option Addr) (c : Nat) : List Value := [.string x.f0, .int .i64 x.f1.f0, .int .i64 x.f1.f1, .string x.f1.f2, .string x.f2, .slice A x.f3.length c]
/-- An expression that was handed back: all that it leads to is of block B or later. -/
def Vex (B : Nat) : World → S43 → Value → Prop := fun w x v => ∃ A c, v = .agg (cells43 x A c).toArray ∧ x.f3.length ≤ c ∧ Kd.F k43 w (fun k => B ≤ k) A x.f3.length x.f3
theorem FK43 {w : World} {ok : Nat → Prop} {x : S43} {A : Option Addr} {c : Nat} (h : x.f3.length ≤ c) (hF : Kd.F k43 w ok A x.f3.length x.f3) : Kd.FK k43 w ok x (cells43 x A c) := k43_mkF w ok x h hF
theorem F_of_cells {α : Type} {d : Kd α} {w : World} {ok : Nat → Prop} {g e : Nat} {fr : Nat × Nat} {xs : List α} {css : List (List Value)} (hb : w.heap[g]? = some (.cells css.flatten.toArray e fr)) (hfr : fr = (0, 0)) (hg : ok g) (hl : css.length = xs.length) (hn : xs.length ≤ 1000)
    (hx : ∀ (j : Nat) (x : α) (c : List Value), xs[j]? = some x → css[j]? = some c → Kd.FK d w ok x c) (hs : ∀ (j i : Nat), (i < d.sz) → ∀ c : List Value, css[j]? = some c → css.flatten[j * d.sz + i]? = c[i]?) : Kd.F d w ok (some ⟨g, 0, none⟩) xs.length xs := by
  subst hfr
  intro W' hW
  refine ⟨rfl, by omega, fun _ => ⟨_, rfl, fun j p hj => ?_⟩⟩
  have hjl : j < css.length := by have := (List.getElem?_eq_some_iff.1 hj).1; omega
  have hc := List.getElem?_eq_getElem hjl
  have hK := hx j p _ hj hc
  have hlen : (css[j]).length = d.sz := d.K_len (Kd.FK_now hK)
  refine ⟨css[j], hlen, hK W' hW, fun i u hu => ?_⟩
  have hi : i < d.sz := by have := (List.getElem?_eq_some_iff.1 hu).1; omega
  rw [add_plain]
  have hb' : W'.heap[g]? = some (.cells css.flatten.toArray e (0, 0)) := (hW g hg (blk_lt hb)).trans hb
  rw [blk_cell hb', List.getElem?_toArray, hs j i hi _ hc]
  exact hu
theorem F_one {w : World} {ok : Nat → Prop} {g : Nat} {x : S43} {A : Option Addr} {c : Nat} (hb : w.heap[g]? = some (.cells (cells43 x A c).toArray 43 (0, 0))) (hg : ok g) (hc : x.f3.length ≤ c) (hF : Kd.F k43 w ok A x.f3.length x.f3) : Kd.F k43 w ok (some ⟨g, 0, none⟩) [x].length [x] := by
  refine F_of_cells (css := [cells43 x A c]) (fr := (0, 0)) (by simpa using hb) rfl hg rfl (by simp) ?_ ?_
  · intro j y d hy hd
    match j, hy, hd with
    | 0, hy, hd => simp at hy hd; subst hy; subst hd; exact FK43 hc hF
  · intro j i hi d hd
    match j, hd with
    | 0, hd => simp at hd; subst hd; simp
theorem F_two {w : World} {ok : Nat → Prop} {g : Nat} {x y : S43} {A A' : Option Addr} {c c' : Nat} (hb : w.heap[g]? = some (.cells (cells43 x A c ++ cells43 y A' c').toArray 43 (0, 0))) (hg : ok g) (hc : x.f3.length ≤ c) (hF : Kd.F k43 w ok A x.f3.length x.f3) (hc' : y.f3.length ≤ c') (hF' : Kd.F k43 w ok A' y.f3.length y.f3) : Kd.F k43 w ok (some ⟨g, 0, none⟩) [x, y].length [x, y] := by
  refine F_of_cells (css := [cells43 x A c, cells43 y A' c']) (fr := (0, 0)) (by simpa using hb) rfl hg rfl (by simp) ?_ ?_
  · intro j z d hz hd
    match j, hz, hd with
    | 0, hz, hd => simp at hz hd; subst hz; subst hd; exact FK43 hc hF
    | 1, hz, hd => simp at hz hd; subst hz; subst hd; exact FK43 hc' hF'
  · intro j i hi d hd
    have h6 : k43.sz = 6 := rfl
    rw [h6] at hi ⊢
    match j, hd with
    | 0, hd =>
      simp at hd; subst hd
      simp only [List.flatten_cons, List.flatten_nil, List.append_nil, Nat.zero_mul, Nat.zero_add]
      rw [List.getElem?_append_left (by simpa [cells43] using hi)]
    | 1, hd =>
      simp at hd; subst hd
      simp only [List.flatten_cons, List.flatten_nil, List.append_nil, Nat.one_mul]
      rw [List.getElem?_append_right (by simp [cells43])]
      simp [cells43]

theorem op_calls (s : ByteArray) (A : Option Addr) (n c : Nat) (w : World) : Calls Tryz.prog 369 #[.string s, .slice A n c] w fun e w' => e = .returned (.agg #[.string s, .int .i64 0, .int .i64 0, .string ⟨#[]⟩, .string ⟨#[]⟩, .slice A n c]) ∧ ∃ o, w' = w.alloc o := by
  go_enter Tryz.func369, Tryz.ntmps369
  go_wp2
  refine bodyPost_ret (v := .agg #[.string s, .int .i64 0, .int .i64 0, .string ⟨#[]⟩, .string ⟨#[]⟩, .slice A n c]) ?_ rfl ⟨rfl, _, rfl⟩
  simp [results, Tryz.results369, go_sem]
theorem val_calls (k n : Int) (s : ByteArray) (w : World) : Calls Tryz.prog 370 #[.agg #[.int .i64 k, .int .i64 n, .string s]] w fun e w' => e = .returned (.agg #[.string Ps.sVal, .int .i64 k, .int .i64 n, .string s, .string ⟨#[]⟩, .slice none 0 0]) ∧ ∃ o o', w' = (w.alloc o).alloc o' := by
  go_enter Tryz.func370, Tryz.ntmps370
  go_wp2
  refine bodyPost_ret (v := .agg #[.string Ps.sVal, .int .i64 k, .int .i64 n, .string s, .string ⟨#[]⟩, .slice none 0 0]) ?_ rfl ⟨rfl, _, _, rfl⟩
  simp [results, Tryz.results370, go_sem]

theorem new_blk {W : World} {b : Nat} (o : Obj) (h : W.heap.size = b) : (W.alloc o).heap[b]? = some o := by subst h; show (W.heap.push o)[W.heap.size]? = some o; simp
theorem blk_put6 {w : World} {g : Nat} {a0 a1 a2 a3 a4 a5 v0 v1 v2 v3 v4 v5 : Value} (h : w.heap[g]? = some (.cells #[a0, a1, a2, a3, a4, a5] 43 (0, 0))) :
    ((((((w.setCell ⟨g, 0, none⟩ v0).setCell ⟨g, 1, none⟩ v1).setCell ⟨g, 2, none⟩ v2).setCell ⟨g, 3, none⟩ v3).setCell ⟨g, 4, none⟩ v4).setCell ⟨g, 5, none⟩ v5).heap[g]? = some (.cells #[v0, v1, v2, v3, v4, v5] 43 (0, 0)) :=
  blk_put (blk_put (blk_put (blk_put (blk_put (blk_put h 0 v0 rfl) 1 v1 rfl) 2 v2 rfl) 3 v3 rfl) 4 v4 rfl) 5 v5 rfl
theorem flat_one {α β : Type} (f : α → β) (l : List α) : (l.map fun s => [f s]).flatten = l.map f := by
  induction l with
  | nil => rfl
  | cons a l ih => simp [List.flatten_cons, ih]
theorem F_strs {w : World} {ok : Nat → Prop} {g : Nat} {l : List ByteArray} (hb : w.heap[g]? = some (.cells (l.map Value.string).toArray 9 (0, 0))) (hg : ok g) (hn : l.length ≤ 1000) : Kd.F Kd.string w ok (some ⟨g, 0, none⟩) l.length l := by
  refine F_of_cells (css := l.map fun s => [Value.string s]) (e := 9) (fr := (0, 0)) (by rw [flat_one]; exact hb) rfl hg (by simp) hn ?_ ?_
  · intro j x c hx hc
    simp only [List.getElem?_map, hx, Option.map_some, Option.some.injEq] at hc
    subst hc
    exact fun W' _ => rfl
  · intro j i hi c hc
    have h1 : Kd.string.sz = 1 := rfl
    rw [h1] at hi ⊢
    obtain rfl : i = 0 := by omega
    rw [flat_one]
    simp only [List.getElem?_map] at hc ⊢
    cases hl : l[j]? with
    | none => rw [hl] at hc; cases hc
    | some y => rw [hl] at hc; cases hc; simp [hl]
theorem must1 {w0 w : World} {g B : Nat} {ts : List S32} (h : PS w0 g ts w) (hB : w.heap.size = B) (a : ByteArray) (c : Nat) : Calls Tryz.prog 259 #[.pointer (some ⟨g, 0, none⟩), .slice (some ⟨B, 0, none⟩) 1 c] (w.alloc (.cells #[.string a] 9)) (Out w0 g Vunit w ((Ps.ms [a] ts).map fun r => ((), r))) := by
  subst hB
  have hF : Kd.F Kd.string (w.alloc (.cells #[.string a] 9)) (fun k => k ≠ g) (some ⟨w.heap.size, 0, none⟩) [a].length [a] := F_strs (new_blk _ rfl) (by have := h.lt; omega) (by simp)
  refine (must_out (h.alloc _) (c := c) hF).mono ?_
  rintro e w' ⟨hg, hm⟩
  exact ⟨((Gr.refl g w).alloc _).trans hg, hm⟩
theorem must3 {w0 w : World} {g B : Nat} {ts : List S32} (h : PS w0 g ts w) (hB : w.heap.size = B) (a b d : ByteArray) (c : Nat) : Calls Tryz.prog 259 #[.pointer (some ⟨g, 0, none⟩), .slice (some ⟨B, 0, none⟩) 3 c] (w.alloc (.cells #[.string a, .string b, .string d] 9)) (Out w0 g Vunit w ((Ps.ms [a, b, d] ts).map fun r => ((), r))) := by
  subst hB
  have hF : Kd.F Kd.string (w.alloc (.cells #[.string a, .string b, .string d] 9)) (fun k => k ≠ g) (some ⟨w.heap.size, 0, none⟩) [a, b, d].length [a, b, d] := F_strs (new_blk _ rfl) (by have := h.lt; omega) (by simp)
  refine (must_out (h.alloc _) (c := c) hF).mono ?_
  rintro e w' ⟨hg, hm⟩
  exact ⟨((Gr.refl g w).alloc _).trans hg, hm⟩
theorem msU_none {l : List ByteArray} {ts : List S32} (h : Ps.ms l ts = none) : ((Ps.ms l ts).map fun r => ((), r)) = none := by rw [h]; rfl
theorem msU_some {l : List ByteArray} {ts r : List S32} (h : Ps.ms l ts = some r) : ((Ps.ms l ts).map fun r => ((), r)) = some ((), r) := by rw [h]; rfl

theorem binds_range (s : ByteArray) : 0 ≤ Ps.binds s ∧ Ps.binds s ≤ 6 := by
  unfold Ps.binds
  repeat' split
  all_goals omega
theorem blkc_alloc {w : World} {g : Nat} {cs : Array Value} {t : TypeId} {v : Value} {o : Obj} (h : w.heap[g]? = some (.cells cs t (0, 0))) (i : Nat) (hv : cs[i]? = some v) : (w.alloc o).cell? ⟨g, i, none⟩ = some v := (blk_cell (blk_alloc h o) i).trans hv
open Go.Proofs.YtcgdncpioafbdaaGreatDoorW.PrintLast in
/-- A call that gives up, in a region that draws its order. -/
theorem goesP_ {P : Program} {ops : Array Oper} {Q : Exit → Act → World → Prop} {oi : Oper} {N : Option Tmp} {a : Act} {w : World} {K : Act → World → Prop} {f : FuncId} {fn : Func} {oa : Array Operand} {ts : Array TypeId} (hf : P.funcs[f]? = some fn) (hname : (fn.name == "runtime.NumGoroutine") = false) (hb : fn.body.isSome = true) (args : Array Value)
    (hw : Region.wanted oi (yielded ops a.tmps) = true) (hop : oi.op = .call { callee := .value (.func f), args := oa, argTypes := ts }) (hargs : oa.map a.eval = args) {ch : List PanicEntry}
    (h : Calls P f args w fun e w' => e = .panicked ch ∧ Q (.panic ch) a w') : if Region.wanted oi (yielded ops a.tmps) = true then Oper.wp P oi a w K Q else K (a.put N undef) w := by
  rw [if_pos hw]
  have he := enters_ hf hname hb args w
  have hrun : (execOp a.eval oi).run P w = .ok (.enter f args) w := by
    unfold execOp
    simp [hop, resolve, Deferred.ofValue, invoke, Act.eval, hargs, he]
  unfold Oper.wp
  rw [hrun, Oper.upon_enter]
  refine h.mono fun e w'' hh => ?_
  obtain ⟨rfl, hq⟩ := hh
  exact hq
theorem blk_setNe {w : World} {g b : Nat} {o : Obj} (h : w.heap[g]? = some o) (hn : g ≠ b) (j : Nat) (v : Value) : (w.setCell ⟨b, j, none⟩ v).heap[g]? = some o := (Below.heap_setCell w ⟨b, j, none⟩ v g hn).trans h
theorem val_below (k n : Int) (s : ByteArray) (w : World) : Calls Tryz.prog 370 #[.agg #[.int .i64 k, .int .i64 n, .string s]] w fun e w' => e = .returned (.agg #[.string Ps.sVal, .int .i64 k, .int .i64 n, .string s, .string ⟨#[]⟩, .slice none 0 0]) ∧ Below w.heap.size w w' :=
  (val_calls k n s w).mono fun e w' ⟨he, o, o', hw⟩ => ⟨he, by subst hw; exact below_alloc (below_alloc (Below.refl _ _) _) _⟩
end Go.Proofs.YtcgdncpioafbdaaGreatDoor.Q

/- Text of an expression: the program's and the document's are the plain one. -/
import Derived.Test.YtcgdncpioafbdaaGreatDoorTx
import Derived.Test.YtcgdncpioafbdaaGreatDoorPa
namespace Go.Proofs.YtcgdncpioafbdaaGreatDoor.Q
open Go Go.RowKit Go.Proofs.YtcgdncpioafbdaaGreatDoorW.PrintWords Go.Proofs.YtcgdncpioafbdaaGreatDoorW.PrintLast Go.Proofs.YtcgdncpioafbdaaGreatDoorW.PrintMore

/-- A call of a closure whose function is known. -/
theorem goesC_ {P : Program} {ops : Array Oper} {Q : Exit → Act → World → Prop} {oi : Oper} {N : Option Tmp} {a : Act} {w : World} {K : Act → World → Prop} {f : FuncId} {fn : Func} {y : Operand} {oa : Array Operand} {ts : Array TypeId} (hf : P.funcs[f]? = some fn) (hname : (fn.name == "runtime.NumGoroutine") = false) (hb : fn.body.isSome = true) (caps args : Array Value)
    (hw : Region.wanted oi (yielded ops a.tmps) = true) (hN : oi.dst = N) (hop : oi.op = .call { callee := .value y, args := oa, argTypes := ts }) (hx : a.eval y = .func (.func f) #[] caps) (hargs : oa.map a.eval ++ caps = args)
    (h : Calls P f args w fun e w' => ∃ v, e = .returned v ∧ K (a.put N v) w') : if Region.wanted oi (yielded ops a.tmps) = true then Oper.wp P oi a w K Q else K (a.put N undef) w := by
  refine call_ f args hw hN ?_ h
  have he := enters_ hf hname hb args w
  unfold execOp
  simp [hop, resolve, Deferred.ofValue, invoke, hx, hargs, he]

theorem sz1 {a b : ByteArray} {n : Nat} (h : (a ++ b).size ≤ n) : a.size ≤ n ∧ b.size ≤ n := by rw [ByteArray.size_append] at h; omega
def TextAt (n : Nat) : Prop := ∀ (x : S43) (w : World) (A : Option Addr) (c : Nat), fu x ≤ n → TG x → (txt x).size ≤ 1000000000 → GV w → x.f3.length ≤ c → Kd.C k43 w A x.f3.length x.f3 → Calls Tryz.prog 41 #[.agg (cells43 x A c).toArray] w fun e w' => e = .returned (.string (txt x)) ∧ Below w.heap.size w w'
def InAt (n : Nat) : Prop := ∀ (x : S43) (w : World) (A : Option Addr) (c b : Nat) (iv : Int) (i : Nat), iv = (i : Int) → i < 2 → fus x.f3 ≤ n → TGs x.f3 → (inn x.f3 i).size ≤ 1000000000 → GV w → x.f3.length ≤ c → Kd.C k43 w A x.f3.length x.f3 → w.heap[b]? = some (.cells (cells43 x A c).toArray 43 (0, 0)) → Calls Tryz.prog 100 #[.int .i64 iv, .pointer (some ⟨b, 0, none⟩)] w fun e w' => e = .returned (.string (inn x.f3 i)) ∧ Below w.heap.size w w'

set_option maxHeartbeats 1000000 in
set_option maxRecDepth 100000 in
theorem in_step (n : Nat) (ih : TextAt n) : InAt (n + 1) := by
  intro x w A c b iv i hiv hi2 hx hT hz hG hc hC hB
  subst hiv
  have HC := Aside0.mk hC
  have HX := Aside0.mk hx
  have HT := Aside0.mk hT
  have HZ := Aside0.mk hz
  have HG := Aside0.mk hG
  have BK := Aside0.mk (show w.heap[b]? = some (.cells #[.string x.f0, .int .i64 x.f1.f0, .int .i64 x.f1.f1, .string x.f1.f2, .string x.f2, .slice A x.f3.length c] 43 (0, 0)) from hB)
  have cc0 : w.cell? ⟨b, 0, none⟩ = some (.string x.f0) := (blk_cell BK.out 0).trans rfl
  have cc1 : w.cell? ⟨b, 1, none⟩ = some (.int .i64 x.f1.f0) := (blk_cell BK.out 1).trans rfl
  have cc2 : w.cell? ⟨b, 2, none⟩ = some (.int .i64 x.f1.f1) := (blk_cell BK.out 2).trans rfl
  have cc3 : w.cell? ⟨b, 3, none⟩ = some (.string x.f1.f2) := (blk_cell BK.out 3).trans rfl
  have cc4 : w.cell? ⟨b, 4, none⟩ = some (.string x.f2) := (blk_cell BK.out 4).trans rfl
  have cc5 : w.cell? ⟨b, 5, none⟩ = some (.slice A x.f3.length c) := (blk_cell BK.out 5).trans rfl
  have hb := blk_lt BK.out
  clear hC hx hT hz hG hB
  by_cases hi : i < x.f3.length
  · have d0 : decide ((i : Int) < (x.f3.length : Int)) = true := decide_eq_true (by omega)
    have d1 : decide (i < x.f3.length) = true := decide_eq_true hi
    have p1 : 0 ≤ (i : Int) := by omega
    have q1 : (i : Int) < (x.f3.length : Int) := by omega
    obtain ⟨ad, A5, c5, e5, x0, x1, x2, x3, x4, x5, hl5, hi5⟩ := at_T43 HC.out (i : Int) p1 q1
    cases e5
    have hrd : rd_T43 x.f3 (i : Int) = x.f3[i] := by
      unfold rd_T43
      rw [Int.toNat_natCast, List.getD_eq_getElem?_getD, List.getElem?_eq_getElem hi]
      rfl
    have HI := Aside0.mk (inn_some hi)
    obtain ⟨y, hy⟩ : ∃ y, x.f3[i] = y := ⟨_, rfl⟩
    have HY := Aside0.mk hy
    rw [hrd, hy] at x0 x1 x2 x3 x4 x5 hl5 hi5
    simp only [Int.toNat_natCast] at x0 x1 x2 x3 x4 x5
    have hym : y ∈ x.f3 := by rw [← hy]; exact List.getElem_mem _
    have HFX := Aside0.mk (show fu y ≤ n by have h1 := fus_mem2 hym; have := HX.out; omega)
    have HTY := Aside0.mk (TGs_mem hym HT.out)
    have HL5 := Aside0.mk hl5
    have HC5 := Aside0.mk hi5
    have hz1 : (txt y).size + 2 ≤ 1000000000 := by
      have h1 := HZ.out
      rw [HI.out, HY.out] at h1
      have e1 : (⟨#[40]⟩ : ByteArray).size = 1 := rfl
      have e2 : (⟨#[41]⟩ : ByteArray).size = 1 := rfl
      rw [ByteArray.size_append, ByteArray.size_append, e1, e2] at h1
      omega
    have p2 : ((i : Int) < 0) = False := eq_false (by omega)
    have HZY := Aside0.mk (show (txt y).size ≤ 1000000000 by omega)
    replace p1 := eq_true p1
    replace q1 := eq_true q1
    clear hl5 hi5 hrd hym hy
    go_enter Tryz.func100, Tryz.ntmps100
    go_wp2_with (first | (go_at_call 41; go_must (refine (ih y _ A5 c5 HFX.out HTY.out HZY.out HG.out HL5.out HC5.out).mono ?_); rintro e1 w1 ⟨rfl, hb1⟩; have HB1 := Aside0.mk hb1; clear hb1))
    go_ret
    exact ⟨by rw [HI.out, HY.out]; rfl, HB1.out⟩
  · have d0 : decide ((i : Int) < (x.f3.length : Int)) = false := decide_eq_false (by omega)
    have d1 : decide (i < x.f3.length) = false := decide_eq_false hi
    have HI := Aside0.mk (inn_none (Nat.le_of_not_lt hi))
    go_enter Tryz.func100, Tryz.ntmps100
    go_wp2
    go_ret
    exact ⟨by rw [HI.out]; rfl, Below.refl _ _⟩
end Go.Proofs.YtcgdncpioafbdaaGreatDoor.Q

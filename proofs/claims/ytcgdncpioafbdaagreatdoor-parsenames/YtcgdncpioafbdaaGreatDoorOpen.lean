/- Arguments opened for the walks, and left as they were: for all laws of the seat. -/
import Derived.Test.YtcgdncpioafbdaaGreatDoorRow
import Derived.Test.YtcgdncpioafbdaaGreatDoorQ0
import Derived.Test.YtcgdncpioafbdaaGreatDoorFP
import Derived.ChangeMaps5
import Derived.WideKeyArgs
import Derived.Deep.Slices
import Derived.Deep.Strs
import Derived.ChangeOld
namespace Go.Proofs.YtcgdncpioafbdaaGreatDoor.Q
open Go Go.RowKit Go.ChangeShapes Go.WideShapes Go.ChangeAt Go.ChangeMaps Go.Deep Go.Proofs.YtcgdncpioafbdaaGreatDoorW.PrintWords

theorem ownK : ownKnob Tryz.prog.godebug = none := by kernel_rfl
theorem three {α : Type} {l : List α} (h : l.length = 3) : ∃ a b c, l = [a, b, c] := by
  match l, h with
  | [a, b, c], _ => exact ⟨a, b, c, rfl⟩
theorem list_of {α : Type} (P : Nat → α → Prop) : ∀ n : Nat, (∀ i, i < n → ∃ b, P i b) → ∃ xs : List α, xs.length = n ∧ ∀ i b, xs[i]? = some b → P i b
  | 0, _ => ⟨[], rfl, fun i b h => by simp at h⟩
  | n + 1, h => by
    obtain ⟨xs, hl, hx⟩ := list_of P n (fun i hi => h i (by omega))
    obtain ⟨b, hb⟩ := h n (by omega)
    refine ⟨xs ++ [b], by simp [hl], fun i c hc => ?_⟩
    rcases Nat.lt_or_ge i xs.length with hi | hi
    · rw [List.getElem?_append_left hi] at hc
      exact hx i c hc
    · rw [List.getElem?_append_right hi] at hc
      have h0 : i - xs.length = 0 := by
        rcases Nat.eq_zero_or_pos (i - xs.length) with h | h
        · exact h
        · rw [List.getElem?_eq_none (by simp; omega)] at hc; cases hc
      rw [h0] at hc
      simp at hc
      subst hc
      have : i = n := by omega
      subst this
      exact hb

section
variable {H : Type} {enc : TypeId × Value → H} {W : World} {b0 : Nat}

theorem args_stay {W' : World} (hb : Below W.heap.size W W') : ∀ {ts : List TypeId} {vs : List Value} {ds : List (DataW H)} {ps : List MemPlace},
    (∀ t ∈ ts, Tryz.prog.readableRec t = true ∧ t < Tryz.prog.types.size) → DataW.TrodAll enc Tryz.prog W 0 (fun _ => true) true ts vs ds ps →
    DataW.TrodAll enc Tryz.prog W' 0 (fun b => decide (b < W.heap.size)) true ts vs ds ps
  | [], _, _, _, _, h => by obtain ⟨rfl, rfl, rfl⟩ := trodAll_nil h; exact trodAll_mk0
  | t :: ts, _, _, _, hr, h => by
    have hlt := DataW.TrodAll.lt h
    obtain ⟨v, vs1, d, ds1, a, b, rfl, rfl, rfl, h1, h2⟩ := trodAll_cons h
    have h3 : DataW.Trod enc Tryz.prog W' 0 (fun b => decide (b < W.heap.size)) true t v d a :=
      WideElems.Trod_stays Fx.p2 (hr t (by simp)).1 (hr t (by simp)).2 h1 (fun p hp => by
        have hp' := hlt p (List.mem_append_left _ hp)
        exact hb.same hp') (fun p hp => by
        have hp' := hlt p (List.mem_append_left _ hp)
        simpa using hp')
    exact ⟨a, b, h3, args_stay hb (fun u hu => hr u (by simp [hu])) h2, rfl⟩

set_option maxRecDepth 100000 in
/-- A slice of flat elements, opened for a walk. -/
theorem open_row {α : Type} (d : Kd α) (sane : α → Prop) {t e : TypeId} (ht : Tryz.prog.underlying t = some (.slice e)) (hC : Tryz.prog.cellsOf e = d.sz)
    (one : ∀ n cs x, DataW.trod enc Tryz.prog W 0 (fun _ => true) true n e cs = some x → ∃ a, d.K W a cs ∧ sane a)
    {v : Value} {D : DataW H} {ps : List MemPlace} (hv : Value.okWide Tryz.prog W .any b0 t v) (h : DataW.Trod enc Tryz.prog W 0 (fun _ => true) true t v D ps) :
    ∃ (A : Option Addr) (cap : Nat) (xs : List α), v = .slice A xs.length cap ∧ xs.length ≤ cap ∧ d.C W A xs.length xs ∧ ∀ a ∈ xs, sane a := by
  obtain ⟨a0, len0, cap0, rfl⟩ := okWide_slice ht hv
  obtain ⟨fuel, hf⟩ := h
  rcases open_slice ht hf with ⟨hc, _⟩ | ⟨a, len, cap, m, n, Dn, Pl, hcs, _, hl, hm, hmm, _, hi⟩
  · simp only [Value.cells] at hc
    obtain ⟨⟩ := hc
    exact ⟨none, 0, [], rfl, Nat.le_refl _, ⟨rfl, Nat.zero_le _, fun h => absurd h (Nat.lt_irrefl 0)⟩, fun a ha => absurd ha List.not_mem_nil⟩
  · simp only [Value.cells] at hcs
    obtain ⟨⟩ := hcs
    have hmm' : m = cap0 := by simpa using hmm
    subst hmm'
    obtain ⟨xs, hxl, hxs⟩ := list_of (fun i (b : α) => ∃ cs' : List Value, cs'.length = d.sz ∧ d.K W b cs' ∧ sane b ∧ ∀ j u, cs'[j]? = some u → W.cell? (a.add (i * d.sz + j)) = some u) len0 (by
      intro i hil
      obtain ⟨cs', hcells, htr⟩ := hi i (by omega)
      obtain ⟨b, hK, hs⟩ := one _ _ _ htr
      obtain ⟨_, hlen, hat⟩ := World.cells?_some hcells
      refine ⟨b, cs', d.K_len hK, hK, hs, fun j u hu => ?_⟩
      have hj : j < cs'.length := (List.getElem?_eq_some_iff.1 hu).1
      have h1 := hat j (by omega)
      rw [Go.Deep.add_add, hC] at h1
      rw [h1, hu])
    have hmax : maxLen = 9223372036854775807 := by kernel_rfl
    subst hxl
    refine ⟨some a, m, xs, rfl, hl, ⟨rfl, by omega, fun _ => ⟨a, rfl, fun j p hj => ?_⟩⟩, fun b hb => ?_⟩
    · obtain ⟨cs', h1, h2, _, h4⟩ := hxs j p hj
      exact ⟨cs', h1, h2, h4⟩
    · obtain ⟨i, hib⟩ := List.getElem?_of_mem hb
      obtain ⟨cs', _, _, h3, _⟩ := hxs i b hib
      exact h3

theorem one_int {e : TypeId} {k : IntKind} (he : Tryz.prog.underlying e = some (.int k)) : ∀ n cs x, DataW.trod enc Tryz.prog W 0 (fun _ => true) true n e cs = some x → ∃ a : Int, (Kd.int k).K W a cs ∧ (Lit.int k a).wf = true := by
  intro n cs x h
  obtain ⟨m, rfl, _, hw⟩ := DataW.trod_int he h
  exact ⟨m, rfl, hw⟩
theorem one_string {e : TypeId} (he : Tryz.prog.underlying e = some .string) : ∀ n cs x, DataW.trod enc Tryz.prog W 0 (fun _ => true) true n e cs = some x → ∃ a : ByteArray, Kd.string.K W a cs ∧ a.size ≤ maxLen := by
  intro n cs x h
  obtain ⟨s, rfl, _, hw⟩ := DataW.trod_string he h
  exact ⟨s, rfl, hw⟩
theorem one_32 : ∀ n cs x, DataW.trod enc Tryz.prog W 0 (fun _ => true) true n 32 cs = some x → ∃ a : S32, k32.K W a cs ∧ (Lit.int .i64 a.f0).wf = true ∧ a.f1.size ≤ maxLen ∧ (Lit.int .i64 a.f2).wf = true := by
  intro n cs x h
  obtain ⟨y0, y1, y2, m, _, hl, h0, h1, h2⟩ := trod_struct3 Tryz.underlying32 h
  have hc : Tryz.prog.cellsOf 32 = 3 := by kernel_rfl
  have c3 : Tryz.prog.cellsOf 3 = 1 := by kernel_rfl
  have c9 : Tryz.prog.cellsOf 9 = 1 := by kernel_rfl
  have c2 : Tryz.prog.cellsOf 2 = 1 := by kernel_rfl
  rw [hc] at hl
  obtain ⟨a, b, c, rfl⟩ := three hl
  simp only [c3, c9, c2, List.drop_zero, List.drop_succ_cons, List.take_succ_cons, List.take_zero] at h0 h1 h2
  obtain ⟨p, hp, _, hpw⟩ := DataW.trod_int Tryz.underlying3 h0
  obtain ⟨q, hq, _, hqw⟩ := DataW.trod_string Tryz.underlying9 h1
  obtain ⟨r, hr, _, hrw⟩ := DataW.trod_int Tryz.underlying2 h2
  cases hp; cases hq; cases hr
  exact ⟨⟨p, q, r⟩, k32_mk W ⟨p, q, r⟩, hpw, hqw, hrw⟩
end
end Go.Proofs.YtcgdncpioafbdaaGreatDoor.Q

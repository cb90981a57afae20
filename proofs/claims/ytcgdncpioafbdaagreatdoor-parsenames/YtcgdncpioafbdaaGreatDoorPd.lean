/- How deep an expression is; the printed Depth says so. What the parser reads is not too deep to be reckoned. -/
import Derived.Test.YtcgdncpioafbdaaGreatDoorPm
import Derived.Test.YtcgdncpioafbdaaGreatDoorPparse
import Derived.Test.YtcgdncpioafbdaaGreatDoorPref17
namespace Go.Proofs.YtcgdncpioafbdaaGreatDoor.Q
open Go Go.RowKit Go.Proofs.YtcgdncpioafbdaaGreatDoorW.PrintWords

mutual
def dep : S43 → Nat
  | ⟨_, _, _, l⟩ => deps l + 1
def deps : List S43 → Nat
  | [] => 0
  | x :: l => max (dep x) (deps l)
end
mutual
def fu : S43 → Nat
  | ⟨_, _, _, l⟩ => fus l + 1
def fus : List S43 → Nat
  | [] => 1
  | x :: l => max (fu x) (fus l) + 1
end
theorem deps_cons (x : S43) (l : List S43) : deps (x :: l) = max (dep x) (deps l) := by rw [deps]
theorem deps_nil : deps [] = 0 := by rw [deps]
mutual
theorem dep_fu : ∀ x : S43, dep x ≤ fu x
  | ⟨_, _, _, l⟩ => by
    unfold dep fu
    have := deps_fus l
    omega
theorem deps_fus : ∀ l : List S43, deps l ≤ fus l
  | [] => by unfold deps fus; omega
  | x :: l => by
    unfold deps fus
    have := dep_fu x
    have := deps_fus l
    omega
end
theorem len_fus : ∀ l : List S43, l.length ≤ fus l
  | [] => by simp
  | x :: l => by
    unfold fus
    have := len_fus l
    simp
    omega
theorem dep_eq (x : S43) : dep x = deps x.f3 + 1 := by cases x; rfl
theorem fu_eq (x : S43) : fu x = fus x.f3 + 1 := by cases x; rfl
theorem fus_mem {x : S43} : ∀ {l : List S43}, x ∈ l → fu x ≤ fus l
  | y :: l, h => by
    unfold fus
    rcases List.mem_cons.1 h with rfl | h
    · omega
    · have := fus_mem h
      omega
theorem deps_app : ∀ a b : List S43, deps (a ++ b) = max (deps a) (deps b)
  | [], b => by rw [deps_nil, List.nil_append]; omega
  | x :: a, b => by
    rw [List.cons_append, deps_cons, deps_cons, deps_app a b]
    omega

theorem Depth_loop {n : Nat} (ih : ∀ x : S43, fu x < n → fu x < 4611686018427387904 → ∀ k, fu x ≤ k → parse_Depth.f k x.f0 x.f1.f0 x.f1.f1 x.f1.f2 x.f2 x.f3 = some (dep x : Int)) :
    ∀ (l pre : List S43), fus l ≤ n → pre.length + fus l < 4611686018427387904 → ∀ (k m : Nat), m < 4611686018427387904 → fus l ≤ k → parse_Depth.l0 k (m : Int) (pre ++ l) ((pre ++ l).length : Int) (pre.length : Int) = some ((max m (deps l) + 1 : Nat) : Int)
  | [], pre, h1, h2, k, m, hm, hk => by
    cases k with
    | zero => simp [fus] at hk
    | succ k =>
      unfold parse_Depth.l0
      rw [if_neg (by simp)]
      unfold deps
      congr 1
      unfold wrap64
      omega
  | x :: l, pre, h1, h2, k, m, hm, hk => by
    unfold fus at h1 h2 hk
    cases k with
    | zero => omega
    | succ k =>
      have hx : rd_T43 (pre ++ x :: l) (pre.length : Int) = x := by
        unfold rd_T43
        rw [Int.toNat_natCast, List.getD_eq_getElem?_getD, List.getElem?_append_right (Nat.le_refl _), Nat.sub_self]
        rfl
      unfold parse_Depth.l0
      rw [if_pos (by simp; omega), if_pos (by omega), if_pos (by simp; omega), hx, ih x (by omega) (by omega) k (by omega)]
      simp only [Option.bind_some]
      have hd := dep_fu x
      have hmx : mx (m : Int) (dep x : Int) = ((max m (dep x) : Nat) : Int) := by
        unfold mx
        split <;> omega
      have hw : wrap64 ((pre.length : Int) + 1) = ((pre ++ [x]).length : Int) := by
        rw [List.length_append]
        simp only [List.length_cons, List.length_nil]
        unfold wrap64
        omega
      rw [hmx, hw, show pre ++ x :: l = (pre ++ [x]) ++ l by simp]
      have h := Depth_loop ih l (pre ++ [x]) (by omega) (by simp; omega) k (max m (dep x)) (by omega) (by omega)
      rw [h, deps_cons]
      congr 2
      omega
theorem Depth_is (x : S43) (hx : fu x < 4611686018427387904) : ∀ k, fu x ≤ k → parse_Depth.f k x.f0 x.f1.f0 x.f1.f1 x.f1.f2 x.f2 x.f3 = some (dep x : Int) := by
  have key : ∀ n, ∀ x : S43, fu x < n → fu x < 4611686018427387904 → ∀ k, fu x ≤ k → parse_Depth.f k x.f0 x.f1.f0 x.f1.f1 x.f1.f2 x.f2 x.f3 = some (dep x : Int) := by
    intro n
    induction n with
    | zero => intro x h; omega
    | succ n ih =>
      intro x h1 h2 k hk
      have he := fu_eq x
      cases k with
      | zero => omega
      | succ k =>
        unfold parse_Depth.f
        have h := Depth_loop (n := n) ih x.f3 [] (by omega) (by simp; omega) k 0 (by omega) (by omega)
        simp only [List.nil_append, List.length_nil] at h
        rw [dep_eq]
        have h0 : ((0 : Nat) : Int) = 0 := rfl
        rw [h0] at h
        rw [h]
        congr 2
        first | done | omega
  exact key (fu x + 1) x (by omega) hx

/-! What the parser reads. -/
theorem fu_op1 (s : ByteArray) (e : S43) : fu (Ps.op s [e]) ≤ fu e + 3 := by
  have := fu_eq (Ps.op s [e])
  have h2 : fus [e] = max (fu e) 1 + 1 := by simp [fus]
  have : fu (Ps.op s [e]) = fus [e] + 1 := this
  have := fu_eq e
  omega
theorem fu_op2 (s : ByteArray) (e x : S43) : fu (Ps.op s [e, x]) ≤ max (fu e) (fu x) + 4 := by
  have h1 : fu (Ps.op s [e, x]) = fus [e, x] + 1 := fu_eq _
  have h2 : fus [e, x] = max (fu e) (max (fu x) 1 + 1) + 1 := by simp [fus]
  omega
theorem fu_val (v : S40) : fu (Ps.val v) = 2 := rfl

def BB (k : Nat) : Nat := 4 * k * k + 2
theorem BB_succ (k : Nat) : BB (k + 1) = BB k + 8 * k + 4 := by
  have h : (k + 1) * (k + 1) = k * k + 2 * k + 1 := by rw [Nat.add_mul, Nat.mul_add]; omega
  unfold BB
  rw [Nat.mul_assoc, Nat.mul_assoc, h]
  omega
theorem fu_all : ∀ k, (∀ least ts e r, Ps.expr k least ts = some (e, r) → fu e ≤ BB k) ∧ (∀ least e ts x r, Ps.more k least e ts = some (x, r) → fu x ≤ max (fu e) (BB k) + 4 * k) ∧ (∀ ts e r, Ps.first k ts = some (e, r) → fu e ≤ BB k)
  | 0 => ⟨fun _ _ _ _ h => by simp [Ps.expr] at h, fun _ _ _ _ _ h => by simp [Ps.more] at h, fun _ _ _ h => by simp [Ps.first] at h⟩
  | k + 1 => by
    obtain ⟨h1, h2, h3⟩ := fu_all k
    have hB := BB_succ k
    have hB2 : 2 ≤ BB k := by unfold BB; omega
    refine ⟨fun least ts e r h => ?_, fun least e ts x r h => ?_, fun ts e r h => ?_⟩
    · unfold Ps.expr at h
      split at h
      · cases h
      · split at h
        · cases h
        · rename_i e1 r1 hf
          have a := h3 _ _ _ hf
          have b := h2 _ _ _ _ _ h
          omega
    · unfold Ps.more at h
      split at h
      · cases h; omega
      · split at h
        · cases h; omega
        · split at h
          · cases h
          · split at h
            · split at h
              · cases h
              · rename_i no r1 ht
                split at h
                · cases h
                · have b := h2 _ _ _ _ _ h
                  have c1 := fu_op1 Ps.sIsnull e
                  have c2 := fu_op1 Ps.sNot (Ps.op Ps.sIsnull [e])
                  have c3 : fu (Ps.op Ps.sIsnull [e]) ≤ fu e + 2 := by
                    have e1 : fu (Ps.op Ps.sIsnull [e]) = fus [e] + 1 := fu_eq _
                    have e2 : fus [e] = max (fu e) 1 + 1 := by simp [fus]
                    have := fu_eq e
                    omega
                  have c4 : fu (Ps.op Ps.sNot [Ps.op Ps.sIsnull [e]]) ≤ fu e + 4 := by
                    have e1 : fu (Ps.op Ps.sNot [Ps.op Ps.sIsnull [e]]) = fus [Ps.op Ps.sIsnull [e]] + 1 := fu_eq _
                    have e2 : fus [Ps.op Ps.sIsnull [e]] = max (fu (Ps.op Ps.sIsnull [e])) 1 + 1 := by simp [fus]
                    omega
                  cases no
                  · rw [if_neg (by decide)] at b
                    omega
                  · rw [if_pos rfl] at b
                    omega
            · split at h
              · cases h
              · rename_i y r1 hx
                have a := h1 _ _ _ _ hx
                have b := h2 _ _ _ _ _ h
                have c := fu_op2 (Ps.pk ts) e y
                omega
    · unfold Ps.first at h
      have o1 : ∀ s e, fu (Ps.op s [e]) ≤ fu e + 3 := fu_op1
      repeat' (split at h)
      all_goals first
        | (cases h; done)
        | (cases h; first | (have := fu_val ⟨1, 0, ⟨#[]⟩⟩; simp only [fu_val]; omega) | (have a := h1 _ _ _ _ ‹Ps.expr k _ _ = some (_, _)›; first | omega | (refine Nat.le_trans (o1 _ _) ?_; omega)) | (rename_i hx hu; have a := h1 _ _ _ _ hx; first | omega | (refine Nat.le_trans (o1 _ _) ?_; omega)) | (show fu ⟨_, _, _, []⟩ ≤ _; simp only [fu, fus]; omega) | (refine Nat.le_trans (Nat.le_of_eq (fu_eq _)) ?_; simp only [Ps.op, fus]; omega))
theorem fu_expr {k : Nat} {least : Int} {ts r : List S32} {e : S43} (h : Ps.expr k least ts = some (e, r)) : fu e ≤ BB k := (fu_all k).1 _ _ _ _ h
end Go.Proofs.YtcgdncpioafbdaaGreatDoor.Q

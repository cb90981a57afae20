/- What the parser reads is of moderate size; its names are tokens' texts. -/
import Derived.Test.YtcgdncpioafbdaaGreatDoorPu
namespace Go.Proofs.YtcgdncpioafbdaaGreatDoor.Q
open Go Go.RowKit Go.Proofs.YtcgdncpioafbdaaGreatDoorW.PrintWords

/-- Tokens of short texts. -/
def TK (N : Nat) (ts : List S32) : Prop := ∀ t ∈ ts, t.f1.size ≤ N
theorem nx_T {N : Nat} {ts r : List S32} {t : S32} (h : Ps.nx ts = some (t, r)) (hT : TK N ts) : t.f1.size ≤ N ∧ TK N r := by
  obtain ⟨_, _, rfl⟩ := Ps.nx_len h
  exact ⟨hT t (List.mem_cons_self), fun u hu => hT u (List.mem_cons_of_mem _ hu)⟩
theorem tk_T {N : Nat} {s : ByteArray} {ts r : List S32} {b : Bool} (h : Ps.tk s ts = some (b, r)) (hT : TK N ts) : TK N r := by
  unfold Ps.tk at h
  split at h
  · cases hn : Ps.nx ts with
    | none => rw [hn] at h; cases h
    | some p =>
      obtain ⟨t, r'⟩ := p
      rw [hn] at h
      cases h
      exact (nx_T hn hT).2
  · cases h; exact hT
theorem ms_T {N : Nat} : ∀ {l : List ByteArray} {ts r : List S32}, Ps.ms l ts = some r → TK N ts → TK N r
  | [], ts, r, h, hT => by simp only [Ps.ms] at h; cases h; exact hT
  | s :: l, ts, r, h, hT => by
    simp only [Ps.ms] at h
    cases ht : Ps.tk s ts with
    | none => rw [ht] at h; cases h
    | some p =>
      obtain ⟨b, r'⟩ := p
      rw [ht] at h
      cases b with
      | false => cases h
      | true => exact ms_T h (tk_T ht hT)
theorem nm_T {N : Nat} {ts r : List S32} {s : ByteArray} (h : Ps.nm ts = some (s, r)) (hT : TK N ts) : s.size ≤ N ∧ TK N r := by
  unfold Ps.nm at h
  cases hn : Ps.nx ts with
  | none => rw [hn] at h; cases h
  | some p =>
    obtain ⟨t, r'⟩ := p
    rw [hn] at h
    simp only at h
    have := nx_T hn hT
    split at h
    · split at h
      · cases h
      · cases h; exact this
    · cases h
theorem all_T {N : Nat} (k : Nat) : (∀ least ts e r, Ps.expr k least ts = some (e, r) → TK N ts → TK N r) ∧ (∀ least x ts e r, Ps.more k least x ts = some (e, r) → TK N ts → TK N r) ∧ (∀ ts e r, Ps.first k ts = some (e, r) → TK N ts → TK N r) := by
  induction k with
  | zero => exact ⟨fun _ _ _ _ h => by simp [Ps.expr] at h, fun _ _ _ _ _ h => by simp [Ps.more] at h, fun _ _ _ h => by simp [Ps.first] at h⟩
  | succ k ih =>
    obtain ⟨ih1, ih2, ih3⟩ := ih
    refine ⟨fun least ts e r h hT => ?_, fun least x ts e r h hT => ?_, fun ts e r h hT => ?_⟩
    · simp only [Ps.expr] at h
      split at h
      · cases h
      · split at h
        · cases h
        · rename_i e' r' hf
          exact ih2 _ _ _ _ _ h (ih3 _ _ _ hf hT)
    · simp only [Ps.more] at h
      split at h
      · cases h; exact hT
      · split at h
        · cases h; exact hT
        · split at h
          · cases h
          · rename_i t r1 hn
            have h0 := (nx_T hn hT).2
            split at h
            · split at h
              · cases h
              · rename_i no r2 ht
                have h1 := tk_T ht h0
                split at h
                · cases h
                · rename_i r3 hm
                  exact ih2 _ _ _ _ _ h (ms_T hm h1)
            · split at h
              · cases h
              · rename_i y r2 he
                exact ih2 _ _ _ _ _ h (ih1 _ _ _ _ he h0)
    · simp only [Ps.first] at h
      split at h
      · cases h
      · rename_i t r1 hn
        have h0 := (nx_T hn hT).2
        repeat' (split at h)
        all_goals first
          | (cases h; done)
          | (cases h; exact h0)
          | (cases h; exact ih1 _ _ _ _ (by assumption) h0)
          | (cases h; exact ms_T (by assumption) h0)
          | (cases h; exact ms_T (by assumption) (ih1 _ _ _ _ (by assumption) h0))
          | (cases h; exact ms_T (by assumption) (ih1 _ _ _ _ (by assumption) (ms_T (by assumption) h0)))
theorem expr_T {N k : Nat} {least : Int} {ts r : List S32} {e : S43} (h : Ps.expr k least ts = some (e, r)) (hT : TK N ts) : TK N r := (all_T k).1 _ _ _ _ h hT

theorem lst_good {α σ : Type} {N : Nat} {one : σ → List S32 → Option ((α × σ) × List S32)} {Q : α → Prop} (hone : ∀ st ts x st' r, one st ts = some ((x, st'), r) → TK N ts → Q x ∧ TK N r) : ∀ {k : Nat} {acc : List α} {st : σ} {ts : List S32} {l : List α} {st' : σ} {r : List S32}, Ps.lst one k acc st ts = some ((l, st'), r) → TK N ts → (∀ x ∈ acc, Q x) → (∀ x ∈ l, Q x) ∧ l.length ≤ acc.length + k ∧ TK N r
  | 0, _, _, _, _, _, _, h, _, _ => by simp [Ps.lst] at h
  | k + 1, acc, st, ts, l, st', r, h, hT, hA => by
    cases ht : Ps.tk Ps.sComma ts with
    | none => rw [lst_none ht] at h; cases h
    | some p =>
      obtain ⟨b, r1⟩ := p
      have h1 := tk_T ht hT
      cases b with
      | false =>
        rw [lst_false ht] at h
        cases h
        exact ⟨hA, by omega, h1⟩
      | true =>
        cases hx : one st r1 with
        | none => rw [lst_true_none ht hx] at h; cases h
        | some p =>
          obtain ⟨⟨x, s1⟩, r2⟩ := p
          rw [lst_true_some ht hx] at h
          obtain ⟨q1, q2⟩ := hone _ _ _ _ _ hx h1
          obtain ⟨g1, g2, g3⟩ := lst_good hone h q2 (fun y hy => by
            rcases List.mem_append.1 hy with hy | hy
            · exact hA y hy
            · rw [List.mem_singleton.1 hy]; exact q1)
          exact ⟨g1, by rw [List.length_append] at g2; simp at g2; omega, g3⟩
theorem list_good {α σ : Type} {N : Nat} {one : σ → List S32 → Option ((α × σ) × List S32)} {Q : α → Prop} (hone : ∀ st ts x st' r, one st ts = some ((x, st'), r) → TK N ts → Q x ∧ TK N r) {k : Nat} {st : σ} {ts : List S32} {l : List α} {st' : σ} {r : List S32} (h : Ps.list one k st ts = some ((l, st'), r)) (hT : TK N ts) : (∀ x ∈ l, Q x) ∧ l.length ≤ k + 1 ∧ TK N r := by
  unfold Ps.list at h
  cases hx : one st ts with
  | none => rw [hx] at h; cases h
  | some p =>
    obtain ⟨⟨x, s2⟩, r2⟩ := p
    rw [hx] at h
    obtain ⟨q1, q2⟩ := hone _ _ _ _ _ hx hT
    obtain ⟨g1, g2, g3⟩ := lst_good hone h q2 (fun y hy => by rw [List.mem_singleton.1 hy]; exact q1)
    exact ⟨g1, by simp at g2; omega, g3⟩
theorem any_good {N k : Nat} (st : Unit) (ts : List S32) (x : S43) (st' : Unit) (r : List S32) (h : Ps.anyU k st ts = some ((x, st'), r)) (hT : TK N ts) : fu x ≤ BB k ∧ TK N r := by
  unfold Ps.anyU at h
  cases he : Ps.expr k 0 ts with
  | none => rw [he] at h; cases h
  | some p => rw [he] at h; cases h; exact ⟨fu_expr he, expr_T he hT⟩
theorem lists_good {N k : Nat} {ts r : List S32} {l : List S43} (h : Ps.lists k ts = some (l, r)) (hT : TK N ts) : (∀ x ∈ l, fu x ≤ BB k) ∧ l.length ≤ k + 1 ∧ TK N r := by
  unfold Ps.lists at h
  cases hl : Ps.list (Ps.anyU k) k () ts with
  | none => rw [hl] at h; cases h
  | some p =>
    obtain ⟨⟨l', u⟩, r'⟩ := p
    rw [hl] at h
    cases h
    exact list_good (N := N) any_good hl hT
theorem row_good {N k : Nat} (st : Unit) (ts : List S32) (x : List S43) (st' : Unit) (r : List S32) (h : Ps.rowU k st ts = some ((x, st'), r)) (hT : TK N ts) : (∀ e ∈ x, fu e ≤ BB k) ∧ TK N r := by
  unfold Ps.rowU Ps.row at h
  cases hu : Ps.ms [Ps.sOpen] ts with
  | none => rw [hu] at h; cases h
  | some r1 =>
    rw [hu] at h
    simp only at h
    cases hl : Ps.lists k r1 with
    | none => rw [hl] at h; cases h
    | some p =>
      obtain ⟨l, r2⟩ := p
      rw [hl] at h
      simp only at h
      obtain ⟨g1, _, g3⟩ := lists_good hl (ms_T hu hT)
      cases hc : Ps.ms [Ps.sClose] r2 with
      | none => rw [hc] at h; cases h
      | some r3 => rw [hc] at h; cases h; exact ⟨g1, ms_T hc g3⟩
theorem set_good {N k : Nat} (st : Unit) (ts : List S32) (x : S90) (st' : Unit) (r : List S32) (h : Ps.setU k st ts = some ((x, st'), r)) (hT : TK N ts) : (fu x.f1 ≤ BB k ∧ x.f0.size ≤ N) ∧ TK N r := by
  unfold Ps.setU Ps.set at h
  cases hn : Ps.nm ts with
  | none => rw [hn] at h; cases h
  | some p =>
    obtain ⟨c, r1⟩ := p
    rw [hn] at h
    simp only at h
    obtain ⟨n1, n2⟩ := nm_T hn hT
    cases hu : Ps.ms [Ps.sEq] r1 with
    | none => rw [hu] at h; cases h
    | some r2 =>
      rw [hu] at h
      simp only at h
      cases he : Ps.expr k 0 r2 with
      | none => rw [he] at h; cases h
      | some p =>
        obtain ⟨e, r3⟩ := p
        rw [he] at h
        cases h
        exact ⟨⟨fu_expr he, n1⟩, expr_T he (ms_T hu n2)⟩
theorem colB_good {N : Nat} {key c : ByteArray} {kind : Int} {ts r : List S32} {x : S128} {key' : ByteArray} (h : Ps.colB key c kind ts = some ((x, key'), r)) (hT : TK N ts) : x.f0 = c ∧ TK N r := by
  unfold Ps.colB at h
  cases hd : Ps.tk Ps.sDet ts with
  | none => rw [hd] at h; cases h
  | some p =>
    obtain ⟨d, r3⟩ := p
    have h2 := tk_T hd hT
    rw [hd] at h
    simp only at h
    cases hk : Ps.tk Ps.sKey r3 with
    | none => rw [hk] at h; cases h
    | some p =>
      obtain ⟨b, r4⟩ := p
      have h3 := tk_T hk h2
      rw [hk] at h
      cases b with
      | false => cases h; exact ⟨rfl, h3⟩
      | true =>
        simp only at h
        split at h
        · cases h; exact ⟨rfl, h3⟩
        · cases h
theorem column_good {N : Nat} (key : ByteArray) (ts : List S32) (x : S128) (key' : ByteArray) (r : List S32) (h : Ps.column key ts = some ((x, key'), r)) (hT : TK N ts) : x.f0.size ≤ N ∧ TK N r := by
  unfold Ps.column at h
  cases hn : Ps.nm ts with
  | none => rw [hn] at h; cases h
  | some p =>
    obtain ⟨c, r1⟩ := p
    obtain ⟨n1, n2⟩ := nm_T hn hT
    rw [hn] at h
    simp only at h
    cases ht : Ps.tk Ps.sText r1 with
    | none => rw [ht] at h; cases h
    | some p =>
      obtain ⟨b, r2⟩ := p
      have h2 := tk_T ht n2
      rw [ht] at h
      cases b with
      | true =>
        obtain ⟨g1, g2⟩ := colB_good h h2
        exact ⟨g1 ▸ n1, g2⟩
      | false =>
        simp only at h
        cases hu : Ps.ms [Ps.sInt] r2 with
        | none => rw [hu] at h; cases h
        | some r3 =>
          rw [hu] at h
          obtain ⟨g1, g2⟩ := colB_good h (ms_T hu h2)
          exact ⟨g1 ▸ n1, g2⟩
theorem whr_good {N k : Nat} {ts r : List S32} {l : List S43} (h : Ps.whr k ts = some (l, r)) (hT : TK N ts) : (∀ e ∈ l, fu e ≤ BB k) ∧ l.length ≤ 1 ∧ TK N r := by
  unfold Ps.whr at h
  cases ht : Ps.tk Ps.sWhere ts with
  | none => rw [ht] at h; cases h
  | some p =>
    obtain ⟨b, r1⟩ := p
    have h1 := tk_T ht hT
    rw [ht] at h
    cases b with
    | false => cases h; exact ⟨by simp, by simp, h1⟩
    | true =>
      simp only at h
      cases hx : Ps.expr k 0 r1 with
      | none => rw [hx] at h; cases h
      | some p =>
        obtain ⟨y, r3⟩ := p
        rw [hx] at h
        cases h
        exact ⟨fun e he => by rw [List.mem_singleton.1 he]; exact fu_expr hx, by simp, expr_T hx h1⟩

/-- A statement of moderate size, its names short. -/
structure GoodS (N k : Nat) (x : S60) : Prop where
  n2 : x.f2.length ≤ k + 1
  n4 : x.f4.length ≤ k + 1
  n5 : x.f5.length ≤ k + 1
  n6 : x.f6.length ≤ k + 1
  n7 : x.f7.length ≤ 1
  e4 : ∀ r ∈ x.f4, ∀ e ∈ r, fu e ≤ BB k
  e5 : ∀ e ∈ x.f5, fu e ≤ BB k
  e6 : ∀ s ∈ x.f6, fu s.f1 ≤ BB k ∧ s.f0.size ≤ N
  e7 : ∀ e ∈ x.f7, fu e ≤ BB k
  s2 : ∀ c ∈ x.f2, c.f0.size ≤ N
theorem GoodS.zero (N k : Nat) {x : S60} (h2 : x.f2 = []) (h4 : x.f4 = []) (h5 : x.f5 = []) (h6 : x.f6 = []) (h7 : x.f7 = []) : GoodS N k x := by
  refine ⟨by rw [h2]; simp, by rw [h4]; simp, by rw [h5]; simp, by rw [h6]; simp, by rw [h7]; simp, by rw [h4]; simp, by rw [h5]; simp, by rw [h6]; simp, by rw [h7]; simp, by rw [h2]; simp⟩
theorem GoodS.of {N k : Nat} {s x : S60} (h : GoodS N k s) (h2 : x.f2 = s.f2) (h4 : x.f4 = s.f4) (h5 : x.f5 = s.f5) (h6 : x.f6 = s.f6) (h7 : x.f7 = s.f7) : GoodS N k x :=
  ⟨h2 ▸ h.n2, h4 ▸ h.n4, h5 ▸ h.n5, h6 ▸ h.n6, h7 ▸ h.n7, h4 ▸ h.e4, h5 ▸ h.e5, h6 ▸ h.e6, h7 ▸ h.e7, h2 ▸ h.s2⟩
theorem fin_is {s x : S60} {ts : List S32} (h : Ps.fin s ts = some x) : x = s := by
  unfold Ps.fin at h
  split at h
  · cases h
  · split at h
    · cases h
    · split at h
      · cases h; rfl
      · cases h
theorem chooseL_good {N k : Nat} {s x : S60} {ts r : List S32} (h : Ps.chooseL s ts = some (x, r)) (hs : GoodS N k s) : GoodS N k x := by
  unfold Ps.chooseL at h
  split at h
  · cases h
  · cases h; exact hs
  · split at h
    · cases h
    · split at h
      · cases h; exact hs.of rfl rfl rfl rfl rfl
      · cases h
theorem chooseO_good {N k : Nat} {s x : S60} {ts r : List S32} (h : Ps.chooseO s ts = some (x, r)) (hs : GoodS N k s) : GoodS N k x := by
  unfold Ps.chooseO at h
  split at h
  · cases h
  · exact chooseL_good h hs
  · split at h
    · cases h
    · split at h
      · cases h
      · split at h
        · cases h
        · exact chooseL_good h (hs.of rfl rfl rfl rfl rfl)
theorem chooseF_good {N k : Nat} {s x : S60} {ts r : List S32} (h : Ps.chooseF k s ts = some (x, r)) (hs : GoodS N k s) (hT : TK N ts) : GoodS N k x := by
  unfold Ps.chooseF at h
  cases hu : Ps.ms [Ps.sFrom] ts with
  | none => rw [hu] at h; cases h
  | some r1 =>
    rw [hu] at h
    simp only at h
    cases hn : Ps.nm r1 with
    | none => rw [hn] at h; cases h
    | some p =>
      obtain ⟨t, r2⟩ := p
      rw [hn] at h
      simp only at h
      cases hw : Ps.whr k r2 with
      | none => rw [hw] at h; cases h
      | some p =>
        obtain ⟨l, r3⟩ := p
        rw [hw] at h
        simp only at h
        obtain ⟨g1, g2, _⟩ := whr_good (N := N) hw (nm_T hn (ms_T hu hT)).2
        exact chooseO_good h ⟨hs.n2, hs.n4, hs.n5, hs.n6, g2, hs.e4, hs.e5, hs.e6, g1, hs.s2⟩
theorem choose_good {N k : Nat} {s x : S60} {ts r : List S32} (h : Ps.choose k s ts = some (x, r)) (hs : GoodS N k s) (hT : TK N ts) : GoodS N k x := by
  unfold Ps.choose at h
  cases ht : Ps.tk Ps.sStar ts with
  | none => rw [ht] at h; cases h
  | some p =>
    obtain ⟨b, r1⟩ := p
    have h1 := tk_T ht hT
    rw [ht] at h
    cases b with
    | true => exact chooseF_good h hs h1
    | false =>
      simp only at h
      cases hl : Ps.lists k r1 with
      | none => rw [hl] at h; cases h
      | some p =>
        obtain ⟨l, r2⟩ := p
        rw [hl] at h
        simp only at h
        obtain ⟨g1, g2, g3⟩ := lists_good (N := N) hl h1
        exact chooseF_good h ⟨hs.n2, hs.n4, g2, hs.n6, hs.n7, hs.e4, g1, hs.e6, hs.e7, hs.s2⟩ g3
theorem head_T {N : Nat} {l : List ByteArray} {ts r : List S32} {s : ByteArray} (h : Ps.head l ts = some (s, r)) (hT : TK N ts) : s.size ≤ N ∧ TK N r := by
  unfold Ps.head at h
  cases hu : Ps.ms l ts with
  | none => rw [hu] at h; cases h
  | some r1 => rw [hu] at h; exact nm_T h (ms_T hu hT)
theorem stmt_good {N k : Nat} {x : S60} {ts : List S32} (h : Ps.stmt k ts = some x) (hT : TK N ts) : GoodS N k x := by
  unfold Ps.stmt at h
  cases hn : Ps.nx ts with
  | none => rw [hn] at h; cases h
  | some p =>
    obtain ⟨t, r⟩ := p
    rw [hn] at h
    simp only at h
    have h0 := (nx_T hn hT).2
    split at h
    · split at h
      · cases h
      · rename_i n r1 hh
        have h1 := (head_T hh h0).2
        split at h
        · cases h
        · rename_i r2 hm
          split at h
          · cases h
          · rename_i l key r3 hl
            obtain ⟨g1, g2, g3⟩ := list_good (N := N) (Q := fun c => c.f0.size ≤ N) column_good hl (ms_T hm h1)
            split at h
            · cases h
            · split at h
              · cases h
              · rw [fin_is h]
                exact ⟨g2, by simp [Ps.st0, z60], by simp [Ps.st0, z60], by simp [Ps.st0, z60], by simp [Ps.st0, z60], by simp [Ps.st0, z60], by simp [Ps.st0, z60], by simp [Ps.st0, z60], by simp [Ps.st0, z60], g1⟩
    · split at h
      · split at h
        · cases h
        · rw [fin_is h]; exact GoodS.zero N k rfl rfl rfl rfl rfl
      · split at h
        · split at h
          · cases h
          · rename_i n r1 hh
            have h1 := (head_T hh h0).2
            split at h
            · cases h
            · rename_i r2 hm
              split at h
              · cases h
              · rename_i l u r3 hl
                obtain ⟨g1, g2, g3⟩ := list_good (N := N) (Q := fun (r : List S43) => ∀ e ∈ r, fu e ≤ BB k) row_good hl (ms_T hm h1)
                rw [fin_is h]
                exact ⟨by simp [Ps.st0, z60], g2, by simp [Ps.st0, z60], by simp [Ps.st0, z60], by simp [Ps.st0, z60], g1, by simp [Ps.st0, z60], by simp [Ps.st0, z60], by simp [Ps.st0, z60], by simp [Ps.st0, z60]⟩
        · split at h
          · split at h
            · cases h
            · rename_i s r1 hc
              rw [fin_is h]
              exact choose_good hc (GoodS.zero N k rfl rfl rfl rfl rfl) h0
          · split at h
            · split at h
              · cases h
              · rename_i n r1 hh
                have h1 := (nm_T hh h0).2
                split at h
                · cases h
                · rename_i r2 hm
                  split at h
                  · cases h
                  · rename_i l u r3 hl
                    obtain ⟨g1, g2, g3⟩ := list_good (N := N) (Q := fun (s : S90) => fu s.f1 ≤ BB k ∧ s.f0.size ≤ N) set_good hl (ms_T hm h1)
                    split at h
                    · cases h
                    · rename_i wl r4 hw
                      obtain ⟨w1, w2, _⟩ := whr_good (N := N) hw g3
                      rw [fin_is h]
                      exact ⟨by simp [Ps.st0, z60], by simp [Ps.st0, z60], by simp [Ps.st0, z60], g2, w2, by simp [Ps.st0, z60], by simp [Ps.st0, z60], g1, w1, by simp [Ps.st0, z60]⟩
            · split at h
              · split at h
                · cases h
                · rename_i n r1 hh
                  have h1 := (head_T hh h0).2
                  split at h
                  · cases h
                  · rename_i wl r2 hw
                    obtain ⟨w1, w2, _⟩ := whr_good (N := N) hw h1
                    rw [fin_is h]
                    exact ⟨by simp [Ps.st0, z60], by simp [Ps.st0, z60], by simp [Ps.st0, z60], by simp [Ps.st0, z60], w2, by simp [Ps.st0, z60], by simp [Ps.st0, z60], by simp [Ps.st0, z60], w1, by simp [Ps.st0, z60]⟩
              · cases h
theorem read_good {N k : Nat} {x : S60} {ts : List S32} (h : Ps.read k ts = some x) (hT : TK N ts) : GoodS N k x := by
  unfold Ps.read at h
  split at h
  · cases h
  · split at h
    · exact stmt_good h hT
    · cases h
theorem GoodS.mod {N k : Nat} {x : S60} (h : GoodS N k x) (hk : k ≤ 90000) : Mod x := by
  have hB : BB k < 4611686018427387904 := by
    unfold BB
    have : k * k ≤ 90000 * 90000 := Nat.mul_le_mul hk hk
    rw [Nat.mul_assoc]
    omega
  refine ⟨by have := h.n2; omega, by have := h.n4; omega, by have := h.n5; omega, by have := h.n6; omega, by have := h.n7; omega, fun e he => ?_⟩
  unfold allE at he
  simp only [List.mem_append, List.mem_flatten, List.mem_map] at he
  rcases he with ((he | he) | ⟨r, hr, he⟩) | ⟨s, hs, rfl⟩
  · exact Nat.lt_of_le_of_lt (h.e5 e he) hB
  · exact Nat.lt_of_le_of_lt (h.e7 e he) hB
  · exact Nat.lt_of_le_of_lt (h.e4 r hr e he) hB
  · exact Nat.lt_of_le_of_lt (h.e6 s hs).1 hB
theorem GoodS.names {N k : Nat} {x : S60} (h : GoodS N k x) : ∀ s ∈ namesOf x, s.size ≤ N := by
  intro s hs
  unfold namesOf at hs
  simp only [List.mem_append, List.mem_map] at hs
  rcases hs with ⟨c, hc, rfl⟩ | ⟨c, hc, rfl⟩
  · exact h.s2 c hc
  · exact (h.e6 c hc).2
end Go.Proofs.YtcgdncpioafbdaaGreatDoor.Q

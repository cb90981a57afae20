/- Lemmas for the law: BlC Pw PparseD Lib Cut Leaf Pparse Px Pl Py Pm Pe. -/
import Derived.Test.YtcgdncpioafbdaaGreatDoorRows
import Derived.Test.YtcgdncpioafbdaaGreatDoorTie
import Derived.Test.YtcgdncpioafbdaaGreatDoorCards
import Derived.Test.YtcgdncpioafbdaaGreatDoorS1
import Derived.WalkLawsBesides
import Derived.Shelf.Strings.OnBuilder
import Derived.Shelf.Strings.SlTrimAscii
import Derived.Shelf.Strings.Prefix
import Derived.Shelf.Strings.Cut
import Derived.Shelf.Strings.Replace
import Derived.Shelf.Small.Strs
import Derived.Shelf.Strconv.Itoa4
import Derived.Shelf.Strconv.ErrVarParseInt
import Derived.Test.YtcgdncpioafbdaaGreatDoorProg
import Derived.WalkKit
import Derived.WalkSpells
import Derived.WalkSmall
import Derived.Lib.OthersKept
import Derived.Laws.RangeAny
import Derived.LoopTactic
import Derived.Outline
import Derived.Lib.Hide
import Derived.Lib.Strings
import Derived.Lib.IndexBytes
import Derived.Lib.ReplaceLaws
import Derived.Lib.SlTrimSet
import Derived.Lib.AppendIntMem
import Derived.Deep.RegionHeld3
set_option linter.unusedVariables false
set_option linter.unusedSimpArgs false
/- Plain: a statement ahead of an End, and ahead of semicolons. -/
namespace Go.Proofs.YtcgdncpioafbdaaGreatDoor.Ps
open Go Go.Proofs.YtcgdncpioafbdaaGreatDoor.Q
variable {α β σ : Type}
theorem lst_loc {one : σ → List S32 → Option ((α × σ) × List S32)} (h : ∀ st, Loc (one st)) : ∀ k acc st, Loc (lst one k acc st)
  | 0, acc, st => Loc.nil_.congr fun ts => by rw [lst]
  | k + 1, acc, st => by
    have hin : Loc fun r => match one st r with
        | none => none
        | some ((x, st1), r1) => lst one k (acc ++ [x]) st1 r1 :=
      (Loc.bind (h st) (G := fun p r1 => lst one k (acc ++ [p.1]) p.2 r1) (fun p => lst_loc h k _ _)).congr fun ts => by cases one st ts <;> rfl
    refine (Loc.bind (tk_ok (s := sComma) (by decide +kernel)) (G := fun b r => if b = true then (match one st r with
        | none => none
        | some ((x, st1), r1) => lst one k (acc ++ [x]) st1 r1) else some ((acc, st), r)) (fun b => Loc.ite _ hin (Loc.ret _))).congr fun ts => ?_
    rw [lst]
    cases tk sComma ts with
    | none => rfl
    | some p =>
      obtain ⟨b, r⟩ := p
      cases b <;> rfl
theorem list_loc {one : σ → List S32 → Option ((α × σ) × List S32)} (h : ∀ st, Loc (one st)) (k : Nat) (st : σ) : Loc (list one k st) :=
  (Loc.bind (h st) (G := fun p r => lst one k [p.1] p.2 r) (fun p => lst_loc h k _ _)).congr fun ts => by unfold list; cases one st ts <;> rfl
theorem anyU_loc (k : Nat) (st : Unit) : Loc (anyU k st) :=
  (Loc.map (fun e => (e, ())) ((expr_loc k).1 0)).congr fun ts => by unfold anyU; cases expr k 0 ts <;> rfl
theorem lists_loc (k : Nat) : Loc (lists k) :=
  (Loc.map (fun p => p.1) (list_loc (fun st => anyU_loc k st) k ())).congr fun ts => by unfold lists; cases list (anyU k) k () ts <;> rfl
theorem whr_loc (k : Nat) : Loc (whr k) := by
  refine (Loc.bind (tk_ok (s := sWhere) (by decide +kernel)) (G := fun b r => if b = true then (match expr k 0 r with
      | none => none
      | some (e, r1) => some ([e], r1)) else some (([] : List S43), r)) (fun b => Loc.ite _ ((Loc.map (fun e => [e]) ((expr_loc k).1 0)).congr fun ts => by cases expr k 0 ts <;> rfl) (Loc.ret _))).congr fun ts => ?_
  unfold whr
  cases tk sWhere ts with
  | none => rfl
  | some p =>
    obtain ⟨b, r⟩ := p
    cases b <;> rfl
theorem colB_loc (key c : ByteArray) (kind : Int) : Loc (colB key c kind) := by
  refine (Loc.bind (tk_ok (s := sDet) (by decide +kernel)) (G := fun d r => match tk sKey r with
    | none => none
    | some (false, r1) => some ((⟨c, kind, if d = true then 1 else 0⟩, key), r1)
    | some (true, r1) => if key.toList = [] then some ((⟨c, kind, if d = true then 1 else 0⟩, c), r1) else none) (fun d => ?_)).congr fun ts => ?_
  · refine (Loc.bind (tk_ok (s := sKey) (by decide +kernel)) (G := fun b r1 => if b = true then (if key.toList = [] then some (((⟨c, kind, if d = true then 1 else 0⟩ : S128), c), r1) else none) else some ((⟨c, kind, if d = true then 1 else 0⟩, key), r1)) (fun b => Loc.ite _ (Loc.ite _ (Loc.ret _) Loc.nil_) (Loc.ret _))).congr fun ts => ?_
    cases tk sKey ts with
    | none => rfl
    | some p =>
      obtain ⟨b, r⟩ := p
      cases b <;> rfl
  · unfold colB
    cases tk sDet ts <;> rfl
theorem column_loc (key : ByteArray) : Loc (column key) := by
  refine (Loc.bind nm_loc (G := fun c r => match tk sText r with
    | none => none
    | some (true, r1) => colB key c 2 r1
    | some (false, r1) => match ms [sInt] r1 with
      | none => none
      | some r2 => colB key c 1 r2) (fun c => ?_)).congr fun ts => ?_
  · refine (Loc.bind (tk_ok (s := sText) (by decide +kernel)) (G := fun b r1 => if b = true then colB key c 2 r1 else (match ms [sInt] r1 with
      | none => none
      | some r2 => colB key c 1 r2)) (fun b => Loc.ite _ (colB_loc _ _ _) (Loc.must (by decide +kernel) (colB_loc _ _ _)))).congr fun ts => ?_
    cases tk sText ts with
    | none => rfl
    | some p =>
      obtain ⟨b, r⟩ := p
      cases b <;> rfl
  · unfold column
    cases nm ts <;> rfl
theorem rowU_loc (k : Nat) (st : Unit) : Loc (rowU k st) := by
  have h : Loc (row k) := by
    refine (Loc.must (l := [sOpen]) (by decide +kernel) (F := fun r => match lists k r with
      | none => none
      | some (l, r1) => match ms [sClose] r1 with
        | none => none
        | some r2 => some (l, r2)) ?_).congr fun ts => by unfold row; cases ms [sOpen] ts <;> rfl
    exact (Loc.bind (lists_loc k) (G := fun l r1 => match ms [sClose] r1 with
        | none => none
        | some r2 => some (l, r2)) (fun l => Loc.must (by decide +kernel) (Loc.ret l))).congr fun ts => by cases lists k ts <;> rfl
  exact (Loc.map (fun e => (e, ())) h).congr fun ts => by unfold rowU; cases row k ts <;> rfl
theorem setU_loc (k : Nat) (st : Unit) : Loc (setU k st) := by
  have h : Loc (set k) := by
    refine (Loc.bind nm_loc (G := fun c r => match ms [sEq] r with
      | none => none
      | some r1 => match expr k 0 r1 with
        | none => none
        | some (e, r2) => some (⟨c, e⟩, r2)) (fun c => Loc.must (by decide +kernel) ?_)).congr fun ts => by unfold set; cases nm ts <;> rfl
    exact (Loc.map (fun e => (⟨c, e⟩ : S90)) ((expr_loc k).1 0)).congr fun ts => by cases expr k 0 ts <;> rfl
  exact (Loc.map (fun e => (e, ())) h).congr fun ts => by unfold setU; cases set k ts <;> rfl
theorem chooseL_loc (s : S60) : Loc (chooseL s) := by
  refine (Loc.bind (tk_ok (s := sLimit) (by decide +kernel)) (G := fun b r => if b = true then ((nx r).bind fun p => if p.1.f0 = 2 then some ({ s with f10 := p.1.f2 }, p.2) else none) else some (s, r)) (fun b => Loc.ite _ (Loc.next (B := fun t r => if t.f0 = 2 then some ({ s with f10 := t.f2 }, r) else none) (fun t => Loc.ite _ (Loc.ret _) Loc.nil_) (fun t r h1 _ => by rw [if_neg (by omega)])) (Loc.ret _))).congr fun ts => ?_
  unfold chooseL
  cases tk sLimit ts with
  | none => rfl
  | some p =>
    obtain ⟨b, r⟩ := p
    cases b with
    | false => rfl
    | true =>
      simp only [Option.bind_some, if_true]
      cases nx r <;> rfl
theorem chooseO_loc (s : S60) : Loc (chooseO s) := by
  have h3 : ∀ o, Loc fun r2 => match tk sDesc r2 with
      | none => none
      | some (d, r3) => chooseL { s with f8 := o, f9 := d } r3 := fun o =>
    (Loc.bind (tk_ok (s := sDesc) (by decide +kernel)) (G := fun d r3 => chooseL { s with f8 := o, f9 := d } r3) (fun d => chooseL_loc _)).congr fun ts => by cases tk sDesc ts <;> rfl
  have h2 : Loc fun r1 => match nm r1 with
      | none => none
      | some (o, r2) => match tk sDesc r2 with
        | none => none
        | some (d, r3) => chooseL { s with f8 := o, f9 := d } r3 :=
    (Loc.bind nm_loc (G := fun o r2 => match tk sDesc r2 with
        | none => none
        | some (d, r3) => chooseL { s with f8 := o, f9 := d } r3) h3).congr fun ts => by cases nm ts <;> rfl
  refine (Loc.bind (tk_ok (s := sOrder) (by decide +kernel)) (G := fun b r => if b = true then (match ms [sBy] r with
    | none => none
    | some r1 => match nm r1 with
      | none => none
      | some (o, r2) => match tk sDesc r2 with
        | none => none
        | some (d, r3) => chooseL { s with f8 := o, f9 := d } r3) else chooseL s r) (fun b => Loc.ite _ (Loc.must (by decide +kernel) h2) (chooseL_loc s))).congr fun ts => ?_
  unfold chooseO
  cases tk sOrder ts with
  | none => rfl
  | some p =>
    obtain ⟨b, r⟩ := p
    cases b <;> rfl
theorem chooseF_loc (k : Nat) (s : S60) : Loc (chooseF k s) := by
  have h2 : ∀ t, Loc fun r1 => match whr k r1 with
      | none => none
      | some (w, r2) => chooseO { s with f1 := t, f7 := w } r2 := fun t =>
    (Loc.bind (whr_loc k) (G := fun w r2 => chooseO { s with f1 := t, f7 := w } r2) (fun w => chooseO_loc _)).congr fun ts => by cases whr k ts <;> rfl
  have h1 : Loc fun r => match nm r with
      | none => none
      | some (t, r1) => match whr k r1 with
        | none => none
        | some (w, r2) => chooseO { s with f1 := t, f7 := w } r2 :=
    (Loc.bind nm_loc (G := fun t r1 => match whr k r1 with
      | none => none
      | some (w, r2) => chooseO { s with f1 := t, f7 := w } r2) h2).congr fun ts => by cases nm ts <;> rfl
  exact (Loc.must (l := [sFrom]) (by decide +kernel) h1).congr fun ts => by unfold chooseF; cases ms [sFrom] ts <;> rfl
theorem choose_loc (k : Nat) (s : S60) : Loc (choose k s) := by
  have h1 : Loc fun r => match lists k r with
      | none => none
      | some (l, r1) => chooseF k { s with f5 := l } r1 :=
    (Loc.bind (lists_loc k) (G := fun l r1 => chooseF k { s with f5 := l } r1) (fun l => chooseF_loc k _)).congr fun ts => by cases lists k ts <;> rfl
  refine (Loc.bind (tk_ok (s := sStar) (by decide +kernel)) (G := fun b r => if b = true then chooseF k s r else (match lists k r with
      | none => none
      | some (l, r1) => chooseF k { s with f5 := l } r1)) (fun b => Loc.ite _ (chooseF_loc k s) h1)).congr fun ts => ?_
  unfold choose
  cases tk sStar ts with
  | none => rfl
  | some p =>
    obtain ⟨b, r⟩ := p
    cases b <;> rfl
theorem head_loc (l : List ByteArray) (h : l.all okW = true) : Loc (head l) := (Loc.must h nm_loc).congr fun ts => by unfold head; cases ms l ts <;> rfl
/-- A statement without what stands behind it. -/
def stmtB (k : Nat) (t : S32) (r : List S32) : R S60 :=
    if t.f1.toList = sCreate.toList then (match head [sTable] r with
      | none => none
      | some (n, r1) => match ms [sOpen] r1 with
        | none => none
        | some r2 => match list column k ⟨#[]⟩ r2 with
          | none => none
          | some ((l, key), r3) => match ms [sClose] r3 with
            | none => none
            | some r4 => if key.toList = [] then none else some ({ st0 with f0 := 1, f1 := n, f2 := l, f3 := key }, r4))
    else if t.f1.toList = sDrop.toList then (match head [sTable] r with
      | none => none
      | some (n, r1) => some ({ st0 with f0 := 2, f1 := n }, r1))
    else if t.f1.toList = sInsert.toList then (match head [sInto] r with
      | none => none
      | some (n, r1) => match ms [sValues] r1 with
        | none => none
        | some r2 => match list (rowU k) k () r2 with
          | none => none
          | some ((l, _), r3) => some ({ st0 with f0 := 3, f1 := n, f4 := l }, r3))
    else if t.f1.toList = sSelect.toList then choose k { st0 with f0 := 4 } r
    else if t.f1.toList = sUpdate.toList then (match nm r with
      | none => none
      | some (n, r1) => match ms [sSet] r1 with
        | none => none
        | some r2 => match list (setU k) k () r2 with
          | none => none
          | some ((l, _), r3) => match whr k r3 with
            | none => none
            | some (w, r4) => some ({ st0 with f0 := 5, f1 := n, f6 := l, f7 := w }, r4))
    else if t.f1.toList = sDelete.toList then (match head [sFrom] r with
      | none => none
      | some (n, r1) => match whr k r1 with
        | none => none
        | some (w, r2) => some ({ st0 with f0 := 6, f1 := n, f7 := w }, r2))
    else none
theorem stmt_is (k : Nat) (ts : List S32) : stmt k ts = ((nx ts).bind fun p => stmtB k p.1 p.2).bind fun p => fin p.1 p.2 := by
  unfold stmt
  cases nx ts with
  | none => rfl
  | some p =>
    obtain ⟨t, r⟩ := p
    simp only [Option.bind_some]
    unfold stmtB
    split
    · cases head [sTable] r with
      | none => rfl
      | some p =>
        simp only
        cases ms [sOpen] p.2 with
        | none => rfl
        | some r2 =>
          simp only
          cases list column k ⟨#[]⟩ r2 with
          | none => rfl
          | some q =>
            simp only
            cases ms [sClose] q.2 with
            | none => rfl
            | some r4 =>
              simp only
              split <;> rfl
    · split
      · cases head [sTable] r <;> rfl
      · split
        · cases head [sInto] r with
          | none => rfl
          | some p =>
            simp only
            cases ms [sValues] p.2 with
            | none => rfl
            | some r2 =>
              simp only
              cases list (rowU k) k () r2 <;> rfl
        · split
          · cases choose k { st0 with f0 := 4 } r <;> rfl
          · split
            · cases nm r with
              | none => rfl
              | some p =>
                simp only
                cases ms [sSet] p.2 with
                | none => rfl
                | some r2 =>
                  simp only
                  cases list (setU k) k () r2 with
                  | none => rfl
                  | some q =>
                    simp only
                    cases whr k q.2 <;> rfl
            · split
              · cases head [sFrom] r with
                | none => rfl
                | some p =>
                  simp only
                  cases whr k p.2 <;> rfl
              · rfl
theorem stmtB_loc (k : Nat) : Loc fun ts => (nx ts).bind fun p => stmtB k p.1 p.2 := by
  refine Loc.next (B := stmtB k) (fun t => ?_) (fun t r _ h2 => ?_)
  · unfold stmtB
    refine Loc.ite _ ?_ (Loc.ite _ ?_ (Loc.ite _ ?_ (Loc.ite _ (choose_loc k _) (Loc.ite _ ?_ (Loc.ite _ ?_ Loc.nil_)))))
    · refine (Loc.bind (head_loc [sTable] (by decide +kernel)) (G := fun n r1 => match ms [sOpen] r1 with
        | none => none
        | some r2 => match list column k ⟨#[]⟩ r2 with
          | none => none
          | some ((l, key), r3) => match ms [sClose] r3 with
            | none => none
            | some r4 => if key.toList = [] then none else some ({ st0 with f0 := 1, f1 := n, f2 := l, f3 := key }, r4)) (fun n => Loc.must (by decide +kernel) ?_)).congr fun ts => by cases head [sTable] ts <;> rfl
      exact (Loc.bind (list_loc column_loc k ⟨#[]⟩) (G := fun q r3 => match ms [sClose] r3 with
            | none => none
            | some r4 => if q.2.toList = [] then none else some ({ st0 with f0 := 1, f1 := n, f2 := q.1, f3 := q.2 }, r4)) (fun q => Loc.must (by decide +kernel) (Loc.ite _ Loc.nil_ (Loc.ret _)))).congr fun ts => by cases list column k ⟨#[]⟩ ts <;> rfl
    · exact (Loc.map (fun n => ({ st0 with f0 := 2, f1 := n } : S60)) (head_loc [sTable] (by decide +kernel))).congr fun ts => by cases head [sTable] ts <;> rfl
    · refine (Loc.bind (head_loc [sInto] (by decide +kernel)) (G := fun n r1 => match ms [sValues] r1 with
        | none => none
        | some r2 => match list (rowU k) k () r2 with
          | none => none
          | some ((l, _), r3) => some ({ st0 with f0 := 3, f1 := n, f4 := l }, r3)) (fun n => Loc.must (by decide +kernel) ?_)).congr fun ts => by cases head [sInto] ts <;> rfl
      exact (Loc.map (fun q => ({ st0 with f0 := 3, f1 := n, f4 := q.1 } : S60)) (list_loc (fun st => rowU_loc k st) k ())).congr fun ts => by cases list (rowU k) k () ts <;> rfl
    · refine (Loc.bind nm_loc (G := fun n r1 => match ms [sSet] r1 with
        | none => none
        | some r2 => match list (setU k) k () r2 with
          | none => none
          | some ((l, _), r3) => match whr k r3 with
            | none => none
            | some (w, r4) => some ({ st0 with f0 := 5, f1 := n, f6 := l, f7 := w }, r4)) (fun n => Loc.must (by decide +kernel) ?_)).congr fun ts => by cases nm ts <;> rfl
      exact (Loc.bind (list_loc (fun st => setU_loc k st) k ()) (G := fun q r3 => match whr k r3 with
            | none => none
            | some (w, r4) => some ({ st0 with f0 := 5, f1 := n, f6 := q.1, f7 := w }, r4)) (fun q => (Loc.map (fun w => ({ st0 with f0 := 5, f1 := n, f6 := q.1, f7 := w } : S60)) (whr_loc k)).congr fun ts => by cases whr k ts <;> rfl)).congr fun ts => by cases list (setU k) k () ts <;> rfl
    · refine (Loc.bind (head_loc [sFrom] (by decide +kernel)) (G := fun n r1 => match whr k r1 with
        | none => none
        | some (w, r2) => some ({ st0 with f0 := 6, f1 := n, f7 := w }, r2)) (fun n => ?_)).congr fun ts => by cases head [sFrom] ts <;> rfl
      exact (Loc.map (fun w => ({ st0 with f0 := 6, f1 := n, f7 := w } : S60)) (whr_loc k)).congr fun ts => by cases whr k ts <;> rfl
  · have n := semi_ne h2
    unfold stmtB
    rw [if_neg (n _ (by decide +kernel)), if_neg (n _ (by decide +kernel)), if_neg (n _ (by decide +kernel)), if_neg (n _ (by decide +kernel)), if_neg (n _ (by decide +kernel)), if_neg (n _ (by decide +kernel))]
/-! ### What stands behind a statement -/
abbrev semiT : S32 := ⟨4, sSemi, 0⟩
theorem fin_clean {s : S60} {t : S32} {c u : List S32} (ht : Cln t) : fin s (t :: c ++ u) = none := by
  unfold fin
  have h : (pk (t :: c ++ u)).toList ≠ sSemi.toList := by
    rw [semi_tl]
    show (if t.f0 = 1 ∨ t.f0 = 4 then t.f1 else (⟨#[]⟩ : ByteArray)).toList ≠ [59]
    split
    · rename_i h; exact ht.2 h
    · decide +kernel
  have : tk sSemi (t :: c ++ u) = some (false, t :: c ++ u) := by unfold tk; rw [if_neg h]
  rw [this]
  simp only [List.cons_append]
  rw [if_neg ht.1]
theorem fin_end (s : S60) (r : List S32) : fin s (z32 :: r) = some s := by kernel_rfl
theorem fin_semi_end (s : S60) (r : List S32) : fin s (semiT :: z32 :: r) = some s := by kernel_rfl
theorem fin_semi_no (s : S60) {t : S32} (r : List S32) (h : t.f0 ≠ 0) : fin s (semiT :: t :: r) = none := by
  have e : fin s (semiT :: t :: r) = if t.f0 = 0 then some s else none := by kernel_rfl
  rw [e, if_neg h]
theorem stop_end (r : List S32) : Stop (z32 :: r) := ⟨z32, r, rfl, .inl rfl⟩
theorem stop_semi (r : List S32) : Stop (semiT :: r) := ⟨semiT, r, rfl, .inr ⟨rfl, rfl⟩⟩
/-- A clean beginning: with an End, with a semicolon and an End, with a semicolon and more. -/
theorem stmt_stop (k : Nat) {c : List S32} (hc : Clean c) : stmt k (c ++ [semiT, z32]) = stmt k (c ++ [z32]) ∧ ∀ t r, t.f0 ≠ 0 → stmt k (c ++ semiT :: t :: r) = none := by
  obtain ⟨res, h1, h2⟩ := stmtB_loc k c hc
  have key : ∀ u, Stop u → stmt k (c ++ u) = (res.map (ext u)).bind fun p => fin p.1 p.2 := fun u hu => by rw [stmt_is]; exact congrArg (fun o : R S60 => o.bind fun p => fin p.1 p.2) (h2 u hu)
  cases res with
  | none => exact ⟨by rw [key _ (stop_semi _), key _ (stop_end _)]; rfl, fun t r _ => by rw [key _ (stop_semi _)]; rfl⟩
  | some p =>
    obtain ⟨x, d⟩ := p
    have hd := h1 _ rfl
    cases d with
    | nil =>
      refine ⟨?_, fun t r ht => ?_⟩
      · rw [key _ (stop_semi _), key _ (stop_end _)]
        show fin x ([] ++ [semiT, z32]) = fin x ([] ++ [z32])
        rw [List.nil_append, List.nil_append, fin_semi_end, fin_end]
      · rw [key _ (stop_semi _)]
        show fin x ([] ++ semiT :: t :: r) = none
        exact fin_semi_no x r ht
    | cons t d =>
      have ht := hd t (by simp)
      refine ⟨?_, fun t' r _ => ?_⟩
      · rw [key _ (stop_semi _), key _ (stop_end _)]
        exact (fin_clean ht).trans (fin_clean ht).symm
      · rw [key _ (stop_semi _)]
        exact fin_clean ht
theorem read_stop (k : Nat) {c : List S32} (hc : Clean c) : read k (c ++ [semiT, z32]) = read k (c ++ [z32]) ∧ ∀ t r, t.f0 ≠ 0 → read k (c ++ semiT :: t :: r) = none := by
  obtain ⟨h1, h2⟩ := stmt_stop k hc
  cases c with
  | nil => exact ⟨rfl, fun t r _ => rfl⟩
  | cons q c =>
    unfold read
    simp only [List.cons_append]
    simp only [List.cons_append] at h1 h2
    refine ⟨by rw [h1], fun t r ht => ?_⟩
    split
    · exact h2 t r ht
    · rfl
/-- Up to the first semicolon. -/
theorem first_semi : ∀ (b : List S32), (∀ t ∈ b, t.f0 ≠ 0 ∧ (Cln t ∨ t = semiT)) → Clean b ∨ ∃ c r, Clean c ∧ b = c ++ semiT :: r
  | [], _ => .inl fun t h => by cases h
  | t :: b, h => by
    rcases (h t (by simp)).2 with ht | rfl
    · rcases first_semi b (fun x hx => h x (by simp [hx])) with hb | ⟨c, r, hc, rfl⟩
      · exact .inl fun x hx => by
          rcases List.mem_cons.1 hx with rfl | hx
          · exact ht
          · exact hb x hx
      · exact .inr ⟨t :: c, r, fun x hx => by
          rcases List.mem_cons.1 hx with rfl | hx
          · exact ht
          · exact hc x hx, rfl⟩
    · exact .inr ⟨[], b, fun x hx => (by cases hx), rfl⟩
/-- Tokens with no End among them: two semicolons behind are none; one behind a statement changes nothing, or there was one. -/
theorem read_two (k : Nat) {b : List S32} (h : ∀ t ∈ b, t.f0 ≠ 0 ∧ (Cln t ∨ t = semiT)) : read k (b ++ [semiT, semiT, z32]) = none ∧ (∀ x, read k (b ++ [z32]) = some x → read k (b ++ [semiT, z32]) = some x ∨ read k (b ++ [semiT, z32]) = none ∧ semiT ∈ b) := by
  rcases first_semi b h with hb | ⟨c, r, hc, rfl⟩
  · obtain ⟨h1, h2⟩ := read_stop k hb
    exact ⟨h2 semiT [z32] (by decide), fun x hx => .inl (h1.trans hx)⟩
  · obtain ⟨h1, h2⟩ := read_stop k hc
    have hn : ∀ u : List S32, (∀ t q, u = t :: q → t.f0 ≠ 0) → u ≠ [] → read k (c ++ semiT :: u) = none := fun u hu hne => by
      cases u with
      | nil => exact absurd rfl hne
      | cons t q => exact h2 t q (hu t q rfl)
    have e : ∀ v : List S32, (c ++ semiT :: r) ++ v = c ++ semiT :: (r ++ v) := fun v => by simp
    have hr : ∀ v : S32, v.f0 ≠ 0 → ∀ w, ∀ t q, r ++ v :: w = t :: q → t.f0 ≠ 0 := by
      intro v hv w t q hq
      cases r with
      | nil => simp at hq; rw [← hq.1]; exact hv
      | cons a r' => simp at hq; rw [← hq.1]; exact (h a (by simp)).1
    refine ⟨by rw [e]; exact hn _ (hr semiT (by decide) _) (by simp), fun x hx => .inr ⟨by rw [e]; exact hn _ (hr semiT (by decide) _) (by simp), by simp⟩⟩
end Go.Proofs.YtcgdncpioafbdaaGreatDoor.Ps
/- The parser's state in memory: a cell that holds what is left of the tokens; how memory may turn between two calls of its methods. -/
namespace Go.Proofs.YtcgdncpioafbdaaGreatDoor.Q
open Go Go.RowKit Go.Proofs.YtcgdncpioafbdaaGreatDoorW.PrintWords
/-- All but block g is as it was. -/
structure Gr (g : Nat) (w w' : World) : Prop where
  os : w'.os = w.os
  tape : w'.tape = w.tape
  output : w'.output = w.output
  size : w.heap.size ≤ w'.heap.size
  block : ∀ i, i < w.heap.size → i ≠ g → w'.heap[i]? = w.heap[i]?
theorem Gr.refl (g : Nat) (w : World) : Gr g w w := ⟨rfl, rfl, rfl, Nat.le_refl _, fun _ _ _ => rfl⟩
theorem Gr.trans {g : Nat} {w w1 w2 : World} (h : Gr g w w1) (k : Gr g w1 w2) : Gr g w w2 :=
  ⟨k.os.trans h.os, k.tape.trans h.tape, k.output.trans h.output, Nat.le_trans h.size k.size, fun i hi hg => (k.block i (Nat.lt_of_lt_of_le hi h.size) hg).trans (h.block i hi hg)⟩
theorem Gr.of_below {g : Nat} {w w' : World} (h : Below w.heap.size w w') : Gr g w w' := ⟨h.os, h.tape, h.output, h.size, fun i hi _ => h.block i hi⟩
theorem Gr.set {g : Nat} {w w1 : World} (h : Gr g w w1) (j : Nat) (v : Value) : Gr g w (w1.setCell ⟨g, j, none⟩ v) := by
  have hb : Below 0 w1 (w1.setCell ⟨g, j, none⟩ v) := ((Below.refl w1.heap.size w1).mono (Nat.zero_le _)).setCell (Nat.zero_le _) v
  refine ⟨hb.os.trans h.os, hb.tape.trans h.tape, hb.output.trans h.output, Nat.le_trans h.size hb.size, fun i hi hg => ?_⟩
  rw [Below.heap_setCell w1 ⟨g, j, none⟩ v i hg]
  exact h.block i hi hg
/-- The tokens: some, the last of them the End. -/
def Ends (ts : List S32) : Prop := ∃ b e, ts = b ++ [e] ∧ e.f0 = 0
theorem Ends.tail {t : S32} {r : List S32} (h : Ends (t :: r)) (ht : t.f0 ≠ 0) : Ends r := by
  obtain ⟨b, e, h1, h2⟩ := h
  cases b with
  | nil => simp at h1; obtain ⟨rfl, _⟩ := h1; exact absurd h2 ht
  | cons c b => simp at h1; exact ⟨b, e, h1.2, h2⟩
theorem Ends.cons {ts : List S32} (h : Ends ts) : ∃ t r, ts = t :: r := by
  obtain ⟨b, e, rfl, _⟩ := h
  cases b <;> exact ⟨_, _, rfl⟩
/-- The parser at block g has the tokens ts left; they lie in memory as it was in w0. -/
structure PS (w0 : World) (g : Nat) (ts : List S32) (w : World) : Prop where
  low : w0.heap.size ≤ g
  lt : g < w.heap.size
  bl : Below w0.heap.size w0 w
  blk : ∃ A c, ts.length ≤ c ∧ k32.C w0 A ts.length ts ∧ w.heap[g]? = some (.cells #[.slice A ts.length c] 231 (0, 0))
  ends : Ends ts
theorem PS.below {w0 w w' : World} {g : Nat} {ts : List S32} (h : PS w0 g ts w) (hb : Below w.heap.size w w') : PS w0 g ts w' := by
  obtain ⟨h1, h2, h3, ⟨A, c, h4, h5, h6⟩, h7⟩ := h
  exact ⟨h1, Nat.lt_of_lt_of_le h2 hb.size, below_step h3 (hb.mono (Nat.le_refl _)), ⟨A, c, h4, h5, (hb.block g h2).trans h6⟩, h7⟩
/-- What a method gives up with. -/
def failedV : List PanicEntry := [{ v := .iface 227 (.agg #[]), recovered := false }]
theorem fail_calls (g : Nat) (w : World) : Calls Tryz.prog 264 #[.pointer (some ⟨g, 0, none⟩)] w fun e w' => e = .panicked failedV ∧ w' = w := by
  go_enter Tryz.func264, Tryz.ntmps264
  go_wp2
  exact ⟨rfl, rfl, rfl⟩
theorem addr0 (a : Addr) : a.add 0 = a := by
  unfold Addr.add
  split <;> simp_all
theorem PS.slice {w0 w : World} {g : Nat} {t : S32} {r : List S32} (h : PS w0 g (t :: r) w) : ∃ ad c, r.length < c ∧ k32.C w0 (some ad) (r.length + 1) (t :: r) ∧ w.heap[g]? = some (.cells #[.slice (some ad) (r.length + 1) c] 231 (0, 0)) ∧
    w.cell? ad = some (.int .i64 t.f0) ∧ w.cell? ⟨ad.block, ad.off + 1, none⟩ = some (.string t.f1) ∧ w.cell? ⟨ad.block, ad.off + 2, none⟩ = some (.int .i64 t.f2) := by
  obtain ⟨h1, h2, h3, ⟨A, c, h4, h5, h6⟩, h7⟩ := h
  obtain ⟨ad, rfl, c0, c1, c2⟩ := at_T32 h5 0 (by omega) (by simp)
  simp only [rd_T32, List.getD_cons_zero, Int.toNat_zero, Nat.zero_mul, addr0] at c0 c1 c2
  refine ⟨ad, c, by simp at h4; omega, h5, h6, ?_, ?_, ?_⟩
  · exact pw_cell_below h3 c0
  · exact pw_cell_below h3 c1
  · exact pw_cell_below h3 c2
set_option maxRecDepth 100000 in
theorem peek_calls {w0 w : World} {g : Nat} {ts : List S32} (h : PS w0 g ts w) : Calls Tryz.prog 327 #[.pointer (some ⟨g, 0, none⟩)] w fun e w' => e = .returned (.string (Ps.pk ts)) ∧ Below w.heap.size w w' := by
  obtain ⟨t, r, rfl⟩ := h.ends.cons
  obtain ⟨ad, c, hc, hC, hb, c0, c1, c2⟩ := h.slice
  have hg := blk_cell hb 0
  simp only [List.getElem?_toArray, List.getElem?_cons_zero] at hg
  have hlt := h.lt
  clear hb hC h
  by_cases k1 : t.f0 = 1
  · have b1 : (t.f0 == 1) = true := beq_iff_eq.mpr k1
    go_enter Tryz.func327, Tryz.ntmps327
    go_wp2
    go_ret
    refine ⟨by simp [Ps.pk, k1], ?_⟩
    exact below_alloc (Below.refl _ _) _
  · have b1 : (t.f0 == 1) = false := beq_eq_false_iff_ne.mpr k1
    by_cases k2 : t.f0 = 4
    · have b2 : (t.f0 == 4) = true := beq_iff_eq.mpr k2
      go_enter Tryz.func327, Tryz.ntmps327
      go_wp2
      go_ret
      refine ⟨by simp [Ps.pk, k2], ?_⟩
      exact below_alloc (Below.refl _ _) _
    · have b2 : (t.f0 == 4) = false := beq_eq_false_iff_ne.mpr k2
      go_enter Tryz.func327, Tryz.ntmps327
      go_wp2
      go_ret
      refine ⟨by simp [Ps.pk, k1, k2], ?_⟩
      exact below_alloc (Below.refl _ _) _
set_option maxRecDepth 100000 in
/-- The next token is the End: it gives up. -/
theorem next_end {w0 w : World} {g : Nat} {t : S32} {r : List S32} (h : PS w0 g (t :: r) w) (k1 : t.f0 = 0) : Calls Tryz.prog 258 #[.pointer (some ⟨g, 0, none⟩)] w fun e w' => e = .panicked failedV ∧ Below w.heap.size w w' := by
  obtain ⟨ad, c, hc, hC, hb, c0, c1, c2⟩ := h.slice
  have hg := blk_cell hb 0
  simp only [List.getElem?_toArray, List.getElem?_cons_zero] at hg
  have hlt := h.lt
  have hal := World.block_lt_of_cell? w _ c0
  clear hb hC h
  have b1 : (t.f0 == 0) = true := beq_iff_eq.mpr k1
  go_enter Tryz.func258, Tryz.ntmps258
  go_wp2_with (first | (go_at_call 264; refine (fail_calls g _).mono ?_; rintro e w1 ⟨rfl, rfl⟩))
  exact ⟨rfl, rfl, below_alloc (below_alloc (Below.refl _ _) _) _⟩
theorem PS.put {w0 w : World} {g : Nat} {ts r : List S32} {A A' : Option Addr} {n c c' : Nat} (h : PS w0 g ts w) (hb : w.heap[g]? = some (.cells #[.slice A n c] 231 (0, 0))) (hC : k32.C w0 A' r.length r) (hc : r.length ≤ c') (he : Ends r) :
    PS w0 g r (w.setCell ⟨g, 0, none⟩ (.slice A' r.length c')) :=
  ⟨h.low, by have := h.lt; have hs := (((Below.refl w.heap.size w).mono (Nat.zero_le _)).setCell (B := 0) (p := ⟨g, 0, none⟩) (Nat.zero_le _) (.slice A' r.length c')).size; omega,
    h.bl.setCell h.low _, ⟨A', c', hc, hC, blk_put hb 0 _ rfl⟩, he⟩
theorem PS.size {w0 w : World} {g : Nat} {ts : List S32} (h : PS w0 g ts w) : w0.heap.size ≤ w.heap.size := h.bl.size
theorem alloc2 {w w' : World} (h : Below w.heap.size w w') (o o' : Obj) : Below w.heap.size w ((w'.alloc o).alloc o') := below_alloc (below_alloc h o) o'
set_option maxRecDepth 100000 in
theorem next_some {w0 w : World} {g : Nat} {t : S32} {r : List S32} (h : PS w0 g (t :: r) w) (k1 : t.f0 ≠ 0) : Calls Tryz.prog 258 #[.pointer (some ⟨g, 0, none⟩)] w fun e w' => e = .returned (.agg #[.int .i64 t.f0, .string t.f1, .int .i64 t.f2]) ∧ PS w0 g r w' ∧ Gr g w w' := by
  obtain ⟨ad, c, hc, hC, hb, c0, c1, c2⟩ := h.slice
  have hg := blk_cell hb 0
  have hz := blk_frozen hb 0
  simp only [List.getElem?_toArray, List.getElem?_cons_zero] at hg
  have hlt := h.lt
  have hal := World.block_lt_of_cell? w _ c0
  have hD := Kd.C_drop (m := 1) hC (by simp) (show (t :: r).length ≤ c by simp; omega)
  simp only [List.drop_succ_cons, List.drop_zero, Option.map_some, Nat.one_mul] at hD
  have HB := Aside0.mk hb
  have HD := Aside0.mk hD
  clear hb hC hD
  have HH := Aside0.mk h
  clear h
  have b1 : (t.f0 == 0) = false := beq_eq_false_iff_ne.mpr k1
  have fin : ∀ A' c', k32.C w0 A' r.length r → r.length ≤ c' → ∀ o o', PS w0 g r (((w.setCell ⟨g, 0, none⟩ (.slice A' r.length c')).alloc o).alloc o') ∧ Gr g w (((w.setCell ⟨g, 0, none⟩ (.slice A' r.length c')).alloc o).alloc o') := fun A' c' h1 h2 o o' =>
    ⟨(PS.put HH.out HB.out h1 h2 (HH.out.ends.tail k1)).below (alloc2 (Below.refl _ _) _ _), ((Gr.refl g w).set 0 _).trans (Gr.of_below (alloc2 (Below.refl _ _) _ _))⟩
  have FIN := Aside0.mk fin
  clear fin
  go_enter Tryz.func258, Tryz.ntmps258
  go_wp2
  · subst h
    refine bodyPost_ret (v := .agg #[.int .i64 t.f0, .string t.f1, .int .i64 t.f2]) ?_ rfl ⟨rfl, FIN.out _ _ ?_ ?_ _ _⟩
    · simp [results, Tryz.results258, go_sem]
    · have := HD.out
      rwa [if_pos rfl] at this
    · omega
  · have hc1 := h
    refine bodyPost_ret (v := .agg #[.int .i64 t.f0, .string t.f1, .int .i64 t.f2]) ?_ rfl ⟨rfl, FIN.out _ _ ?_ ?_ _ _⟩
    · simp [results, Tryz.results258, go_sem]
    · have := HD.out
      rw [if_neg hc1] at this
      exact this
    · omega
theorem next_calls {w0 w : World} {g : Nat} {ts : List S32} (h : PS w0 g ts w) : Calls Tryz.prog 258 #[.pointer (some ⟨g, 0, none⟩)] w fun e w' => Gr g w w' ∧ match Ps.nx ts with
    | none => e = .panicked failedV
    | some (t, r) => e = .returned (.agg #[.int .i64 t.f0, .string t.f1, .int .i64 t.f2]) ∧ PS w0 g r w' := by
  obtain ⟨t, r, rfl⟩ := h.ends.cons
  by_cases k : t.f0 = 0
  · refine (next_end h k).mono ?_
    rintro e w' ⟨rfl, hb⟩
    exact ⟨Gr.of_below hb, by simp [Ps.nx, k]⟩
  · refine (next_some h k).mono ?_
    rintro e w' ⟨rfl, hp, hg⟩
    exact ⟨hg, by simp [Ps.nx, k, hp]⟩
end Go.Proofs.YtcgdncpioafbdaaGreatDoor.Q
-- Written by a program of this seat (wip/pr.py, by way of the kit's print) out of the translation; Lean checks it.
namespace Go.Proofs.YtcgdncpioafbdaaGreatDoor.Q
open Go.RowKit Go.Proofs.YtcgdncpioafbdaaGreatDoorW.PrintWords Go.Proofs.YtcgdncpioafbdaaGreatDoorW.PrintLast Go.Proofs.YtcgdncpioafbdaaGreatDoorW.PrintMore
attribute [local go_sem] max2_int min2_int max_two min_two max_three min_three max_four min_four   -- for this text's walks alone
set_option linter.unusedVariables false
set_option linter.unusedSimpArgs false
/-! ### parse_reserved: function 324 -/
def parse_reserved.f (a0 : ByteArray) : Option (Bool) := if a0.toList = ([99, 114, 101, 97, 116, 101] : List UInt8) then (some true) else (if a0.toList = ([116, 97, 98, 108, 101] : List UInt8) then (some true) else (if a0.toList = ([100, 114, 111, 112] : List UInt8) then (some true) else (if a0.toList = ([105, 110, 115, 101, 114, 116] : List UInt8) then (some true) else (if a0.toList = ([105, 110, 116, 111] : List UInt8) then (some true) else (if a0.toList = ([118, 97, 108, 117, 101, 115] : List UInt8) then (some true) else (if a0.toList = ([115, 101, 108, 101, 99, 116] : List UInt8) then (some true) else (if a0.toList = ([102, 114, 111, 109] : List UInt8) then (some true) else (if a0.toList = ([119, 104, 101, 114, 101] : List UInt8) then (some true) else (if a0.toList = ([111, 114, 100, 101, 114] : List UInt8) then (some true) else (if a0.toList = ([98, 121] : List UInt8) then (some true) else (if a0.toList = ([100, 101, 115, 99] : List UInt8) then (some true) else (if a0.toList = ([108, 105, 109, 105, 116] : List UInt8) then (some true) else (if a0.toList = ([117, 112, 100, 97, 116, 101] : List UInt8) then (some true) else (if a0.toList = ([115, 101, 116] : List UInt8) then (some true) else (if a0.toList = ([100, 101, 108, 101, 116, 101] : List UInt8) then (some true) else (if a0.toList = ([97, 110, 100] : List UInt8) then (some true) else (if a0.toList = ([111, 114] : List UInt8) then (some true) else (if a0.toList = ([110, 111, 116] : List UInt8) then (some true) else (if a0.toList = ([105, 115] : List UInt8) then (some true) else (if a0.toList = ([110, 117, 108, 108] : List UInt8) then (some true) else (if a0.toList = ([105, 110, 116] : List UInt8) then (some true) else (if a0.toList = ([116, 101, 120, 116] : List UInt8) then (some true) else (if a0.toList = ([100, 101, 116] : List UInt8) then (some true) else (if a0.toList = ([107, 101, 121] : List UInt8) then (some true) else (if a0.toList = ([99, 111, 117, 110, 116] : List UInt8) then (some true) else (if a0.toList = ([115, 117, 109] : List UInt8) then (some true) else (if a0.toList = ([109, 105, 110] : List UInt8) then (some true) else (if a0.toList = ([109, 97, 120] : List UInt8) then (some true) else (some false)))))))))))))))))))))))))))))
/-! ### parse_binds: function 102 -/
mutual
def parse_binds.j0 : Nat → ByteArray → Bool → Option (Int)
  | 0, _, _ => none
  | k + 1, x3, x8 => if x8 = true then (some 4) else (if x3.toList = ([43] : List UInt8) then (parse_binds.j1 k x3 (x3.toList == ([43] : List UInt8))) else (if x3.toList = ([45] : List UInt8) then (parse_binds.j1 k x3 (x3.toList == ([45] : List UInt8))) else (parse_binds.j1 k x3 (x3.toList == ([124, 124] : List UInt8)))))
def parse_binds.j1 : Nat → ByteArray → Bool → Option (Int)
  | 0, _, _ => none
  | k + 1, x3, x16 => if x16 = true then (some 5) else (if x3.toList = ([42] : List UInt8) then (some 6) else (if x3.toList = ([47] : List UInt8) then (some 6) else (if x3.toList = ([37] : List UInt8) then (some 6) else (some 0))))
end
def parse_binds.f (k : Nat) (a0 : ByteArray) : Option (Int) := if a0.toList = ([111, 114] : List UInt8) then (some 1) else (if a0.toList = ([97, 110, 100] : List UInt8) then (some 2) else (if a0.toList = ([61] : List UInt8) then (parse_binds.j0 k a0 (a0.toList == ([61] : List UInt8))) else (if a0.toList = ([60, 62] : List UInt8) then (parse_binds.j0 k a0 (a0.toList == ([60, 62] : List UInt8))) else (if a0.toList = ([60] : List UInt8) then (parse_binds.j0 k a0 (a0.toList == ([60] : List UInt8))) else (if a0.toList = ([60, 61] : List UInt8) then (parse_binds.j0 k a0 (a0.toList == ([60, 61] : List UInt8))) else (if a0.toList = ([62] : List UInt8) then (parse_binds.j0 k a0 (a0.toList == ([62] : List UInt8))) else (if a0.toList = ([62, 61] : List UInt8) then (parse_binds.j0 k a0 (a0.toList == ([62, 61] : List UInt8))) else (parse_binds.j0 k a0 (a0.toList == ([105, 115] : List UInt8))))))))))
/-! ### parse_digits: function 177 -/
def parse_digits.f : Nat → Int → Option (ByteArray)
  | 0, _ => none
  | k + 1, a0 => if a0 < 10 then (some (strOfNums (([(48 + ((a0) % 256)) % 256] : List Int)))) else ((parse_digits.f k (IntKind.u64.wrap (Int.tdiv a0 10))).bind fun t104 => ((parse_digits.f k (Int.tmod a0 10)).bind fun t105 => (if t104.size + t105.size ≤ 9223372036854775807 then (some (t104 ++ t105)) else (none))))
/-! ### parse_literal: function 101 -/
def parse_literal.j0 : Nat → Bool → Int → Int → ByteArray → Option (ByteArray)
  | 0, _, _, _, _ => none
  | k + 1, x7, x107000, x107001, x107002 => if x7 = true then ((strings_ReplaceAll.f x107002 (⟨#[39]⟩ : ByteArray) (⟨#[39, 39]⟩ : ByteArray)).bind fun t107 => (if 1 + t107.size ≤ 9223372036854775807 then (if ((⟨#[39]⟩ : ByteArray) ++ t107).size + 1 ≤ 9223372036854775807 then (some (((⟨#[39]⟩ : ByteArray) ++ t107) ++ (⟨#[39]⟩ : ByteArray))) else (none)) else (none))) else (if x107001 < 0 then ((parse_digits.f k (IntKind.u64.wrap (wrap64 (-x107001)))).bind fun t108 => (if 1 + t108.size ≤ 9223372036854775807 then (some ((⟨#[45]⟩ : ByteArray) ++ t108)) else (none))) else ((parse_digits.f k (IntKind.u64.wrap (x107001))).bind fun t109 => (some t109)))
def parse_literal.f (k : Nat) (a0_0 : Int) (a0_1 : Int) (a0_2 : ByteArray) : Option (ByteArray) := if a0_0 = 0 then (some (⟨#[110, 117, 108, 108]⟩ : ByteArray)) else (if a0_0 = 2 then (parse_literal.j0 k true a0_0 a0_1 a0_2) else (parse_literal.j0 k (a0_0 != 1) a0_0 a0_1 a0_2))
/-! ### parse_Depth: function 43 -/
mutual
def parse_Depth.l0 : Nat → Int → List (S43) → Int → Int → Option (Int)
  | 0, _, _, _, _ => none
  | k + 1, x3, x7, x8, x9 => if x9 < x8 then (if 0 ≤ x9 then (if x9 < (x7.length : Int) then ((parse_Depth.f k ((rd_T43 x7 x9).f0) ((rd_T43 x7 x9).f1.f0) ((rd_T43 x7 x9).f1.f1) ((rd_T43 x7 x9).f1.f2) ((rd_T43 x7 x9).f2) ((rd_T43 x7 x9).f3)).bind fun t113 => (parse_Depth.l0 k (mx x3 t113) x7 x8 (wrap64 (x9 + 1)))) else (none)) else (none)) else (some (wrap64 (x3 + 1)))
def parse_Depth.f : Nat → ByteArray → Int → Int → ByteArray → ByteArray → List (S43) → Option (Int)
  | 0, _, _, _, _, _, _ => none
  | k + 1, a0_0, a0_1, a0_2, a0_3, a0_4, l0_5 => parse_Depth.l0 k 0 l0_5 (l0_5.length : Int) 0
end
end Go.Proofs.YtcgdncpioafbdaaGreatDoor.Q
/- The library's contracts at this seat's numbers: laid by the kit's shelf (lay-shelf.mjs, lay-plain.mjs), those that are wanted here picked by wip/pick.py. -/
namespace Go.Proofs
open Go.Shelf
def Tryz.lays170_ren : Go.Shelf.Ren := ⟨fun | 170 => 125 | n => n, fun | 70 => 167 | 3 => 3 | 0 => 0 | 72 => 169 | 37 => 36 | 5 => 5 | n => n, fun | n => n⟩
theorem Tryz.lays170 : Go.Proofs.Lays.n170 Tryz.prog Tryz.lays170_ren := {
  mixed := by kernel_rfl
  f170 := Tryz.func125.trans (congrArg some (by kernel_rfl))
  t0 := Tryz.underlying0
  a0 := Tryz.isAgg0
  z0 := Tryz.sizeOf0
  v0 := Tryz.zeroValue0
  t3 := Tryz.underlying3
  a3 := Tryz.isAgg3
  z3 := Tryz.sizeOf3
  v3 := Tryz.zeroValue3
  t37 := Tryz.underlying36
  a37 := Tryz.isAgg36
  z37 := Tryz.sizeOf36
  v37 := Tryz.zeroValue36
  t70 := Tryz.underlying167
  a70 := Tryz.isAgg167
  z70 := Tryz.sizeOf167
  v70 := Tryz.zeroValue167
  t72 := Tryz.underlying169
  a72 := Tryz.isAgg169
  z72 := Tryz.sizeOf169
  v72 := Tryz.zeroValue169 }
open Go.RowKit in
theorem Tryz.Builder_Len (B b : Nat) (bs : List Value) (w : World) (h : Lib.IsBuilder 169 5 B b bs w) :
    Calls Tryz.prog 125 #[.pointer (some ⟨b, 0, none⟩)] w fun e w' => e = .returned (.int .i64 bs.length) ∧ w' = w := Any.Builder_Len Tryz.lays170 B b bs w h
def Tryz.lays169_ren : Go.Shelf.Ren := ⟨fun | 169 => 126 | n => n, fun | 70 => 167 | 9 => 9 | 0 => 0 | 72 => 169 | 37 => 36 | 127 => 260 | 3 => 3 | 5 => 5 | n => n, fun | n => n⟩
theorem Tryz.lays169 : Go.Proofs.Lays.n169 Tryz.prog Tryz.lays169_ren := {
  mixed := by kernel_rfl
  f169 := Tryz.func126.trans (congrArg some (by kernel_rfl))
  t0 := Tryz.underlying0
  a0 := Tryz.isAgg0
  z0 := Tryz.sizeOf0
  v0 := Tryz.zeroValue0
  t3 := Tryz.underlying3
  a3 := Tryz.isAgg3
  z3 := Tryz.sizeOf3
  v3 := Tryz.zeroValue3
  t9 := Tryz.underlying9
  a9 := Tryz.isAgg9
  z9 := Tryz.sizeOf9
  v9 := Tryz.zeroValue9
  t37 := Tryz.underlying36
  a37 := Tryz.isAgg36
  z37 := Tryz.sizeOf36
  v37 := Tryz.zeroValue36
  t70 := Tryz.underlying167
  a70 := Tryz.isAgg167
  z70 := Tryz.sizeOf167
  v70 := Tryz.zeroValue167
  t72 := Tryz.underlying169
  a72 := Tryz.isAgg169
  z72 := Tryz.sizeOf169
  v72 := Tryz.zeroValue169
  t127 := Tryz.underlying260
  a127 := Tryz.isAgg260
  z127 := Tryz.sizeOf260
  v127 := Tryz.zeroValue260 }
theorem Tryz.Builder_Extra_169 : Builder.Extra Tryz.prog Tryz.lays169_ren := {
  sizeBuilder := by kernel_rfl
  liesBuilder := by kernel_rfl
  t5 := Tryz.underlying5
  a5 := Tryz.isAgg5
  z5 := Tryz.sizeOf5
  v5 := Tryz.zeroValue5
  infoByte := by kernel_rfl
  cellsByte := by kernel_rfl
  sizeByte := by kernel_rfl
  neB5 := by decide }
open Go.RowKit in
theorem Tryz.Builder_String_any (B b : Nat) (l : List UInt8) (w : World) (h : Lib.IsBuilder 169 5 B b (Lib.byteCells l) w) (hBw : B ≤ w.heap.size) :
    Calls Tryz.prog 126 #[.pointer (some ⟨b, 0, none⟩)] w fun e w' => e = .returned (.string ⟨l.toArray⟩) ∧ Below B w w' := Any.Builder_String_any Tryz.lays169 Tryz.Builder_Extra_169 B b l w h hBw
def Tryz.lays159_ren : Go.Shelf.Ren := ⟨fun | 159 => 122 | 165 => 130 | 166 => 131 | 167 => 127 | 169 => 126 | 230 => 204 | 204 => 205 | 240 => 210 | 241 => 218 | 197 => 217 | 118 => 280 | 168 => 281 | 270 => 282 | 262 => 283 | 276 => 289 | 277 => 297 | 260 => 296 | 242 => 338 | 313 => 339 | 278 => 362 | 274 => 363 | 275 => 364 | n => n, fun | 9 => 9 | 4 => 4 | 3 => 3 | 5 => 5 | 72 => 169 | 0 => 0 | 76 => 175 | 75 => 163 | 107 => 254 | 70 => 167 | 20 => 20 | 37 => 36 | 127 => 260 | 21 => 21 | 105 => 266 | 164 => 333 | 162 => 371 | 203 => 369 | 119 => 376 | 46 => 276 | 139 => 379 | 138 => 378 | 51 => 338 | 160 => 395 | 208 => 409 | 206 => 407 | 80 => 171 | n => n, fun | 13 => 3 | 3 => 5 | 4 => 6 | n => n⟩
theorem Tryz.lays159 : Go.Proofs.Lays.n159 Tryz.prog Tryz.lays159_ren := {
  mixed := by kernel_rfl
  f118 := Tryz.func280.trans (congrArg some (by kernel_rfl))
  f159 := Tryz.func122.trans (congrArg some (by kernel_rfl))
  f165 := Tryz.func130.trans (congrArg some (by kernel_rfl))
  f166 := Tryz.func131.trans (congrArg some (by kernel_rfl))
  f167 := Tryz.func127.trans (congrArg some (by kernel_rfl))
  f168 := Tryz.func281.trans (congrArg some (by kernel_rfl))
  f169 := Tryz.func126.trans (congrArg some (by kernel_rfl))
  f197 := Tryz.func217.trans (congrArg some (by kernel_rfl))
  f204 := Tryz.func205.trans (congrArg some (by kernel_rfl))
  f230 := Tryz.func204.trans (congrArg some (by kernel_rfl))
  f240 := Tryz.func210.trans (congrArg some (by kernel_rfl))
  f241 := Tryz.func218.trans (congrArg some (by kernel_rfl))
  f242 := Tryz.func338.trans (congrArg some (by kernel_rfl))
  f260 := Tryz.func296.trans (congrArg some (by kernel_rfl))
  f262 := Tryz.func283.trans (congrArg some (by kernel_rfl))
  f270 := Tryz.func282.trans (congrArg some (by kernel_rfl))
  f274 := Tryz.func363.trans (congrArg some (by kernel_rfl))
  f275 := Tryz.func364.trans (congrArg some (by kernel_rfl))
  f276 := Tryz.func289.trans (congrArg some (by kernel_rfl))
  f277 := Tryz.func297.trans (congrArg some (by kernel_rfl))
  f278 := Tryz.func362.trans (congrArg some (by kernel_rfl))
  f313 := Tryz.func339.trans (congrArg some (by kernel_rfl))
  t0 := Tryz.underlying0
  a0 := Tryz.isAgg0
  z0 := Tryz.sizeOf0
  v0 := Tryz.zeroValue0
  t3 := Tryz.underlying3
  a3 := Tryz.isAgg3
  z3 := Tryz.sizeOf3
  v3 := Tryz.zeroValue3
  t4 := Tryz.underlying4
  a4 := Tryz.isAgg4
  z4 := Tryz.sizeOf4
  v4 := Tryz.zeroValue4
  t5 := Tryz.underlying5
  a5 := Tryz.isAgg5
  z5 := Tryz.sizeOf5
  v5 := Tryz.zeroValue5
  t9 := Tryz.underlying9
  a9 := Tryz.isAgg9
  z9 := Tryz.sizeOf9
  v9 := Tryz.zeroValue9
  t20 := Tryz.underlying20
  a20 := Tryz.isAgg20
  z20 := Tryz.sizeOf20
  v20 := Tryz.zeroValue20
  t21 := Tryz.underlying21
  a21 := Tryz.isAgg21
  z21 := Tryz.sizeOf21
  v21 := Tryz.zeroValue21
  t37 := Tryz.underlying36
  a37 := Tryz.isAgg36
  z37 := Tryz.sizeOf36
  v37 := Tryz.zeroValue36
  t46 := Tryz.underlying276
  a46 := Tryz.isAgg276
  z46 := Tryz.sizeOf276
  v46 := Tryz.zeroValue276
  t51 := Tryz.underlying338
  a51 := Tryz.isAgg338
  z51 := Tryz.sizeOf338
  v51 := Tryz.zeroValue338
  t70 := Tryz.underlying167
  a70 := Tryz.isAgg167
  z70 := Tryz.sizeOf167
  v70 := Tryz.zeroValue167
  t72 := Tryz.underlying169
  a72 := Tryz.isAgg169
  z72 := Tryz.sizeOf169
  v72 := Tryz.zeroValue169
  t75 := Tryz.underlying163
  a75 := Tryz.isAgg163
  z75 := Tryz.sizeOf163
  v75 := Tryz.zeroValue163
  t76 := Tryz.underlying175
  a76 := Tryz.isAgg175
  z76 := Tryz.sizeOf175
  v76 := Tryz.zeroValue175
  t105 := Tryz.underlying266
  a105 := Tryz.isAgg266
  z105 := Tryz.sizeOf266
  v105 := Tryz.zeroValue266
  t107 := Tryz.underlying254
  a107 := Tryz.isAgg254
  z107 := Tryz.sizeOf254
  v107 := Tryz.zeroValue254
  t119 := Tryz.underlying376
  a119 := Tryz.isAgg376
  z119 := Tryz.sizeOf376
  t127 := Tryz.underlying260
  a127 := Tryz.isAgg260
  z127 := Tryz.sizeOf260
  v127 := Tryz.zeroValue260
  t138 := Tryz.underlying378
  a138 := Tryz.isAgg378
  z138 := Tryz.sizeOf378
  v138 := Tryz.zeroValue378
  t139 := Tryz.underlying379
  a139 := Tryz.isAgg379
  z139 := Tryz.sizeOf379
  v139 := Tryz.zeroValue379
  t160 := Tryz.underlying395
  a160 := Tryz.isAgg395
  z160 := Tryz.sizeOf395
  v160 := Tryz.zeroValue395
  t162 := Tryz.underlying371
  a162 := Tryz.isAgg371
  z162 := Tryz.sizeOf371
  v162 := Tryz.zeroValue371
  t164 := Tryz.underlying333
  a164 := Tryz.isAgg333
  z164 := Tryz.sizeOf333
  v164 := Tryz.zeroValue333
  t203 := Tryz.underlying369
  a203 := Tryz.isAgg369
  z203 := Tryz.sizeOf369
  v203 := Tryz.zeroValue369
  t206 := Tryz.underlying407
  a206 := Tryz.isAgg407
  z206 := Tryz.sizeOf407
  v206 := Tryz.zeroValue407
  t208 := Tryz.underlying409
  a208 := Tryz.isAgg409
  z208 := Tryz.sizeOf409
  v208 := Tryz.zeroValue409
  g3 := by kernel_rfl
  g4 := by kernel_rfl
  g13 := by kernel_rfl }
theorem Tryz.Builder_Extra_159 : Builder.Extra Tryz.prog Tryz.lays159_ren := {
  sizeBuilder := by kernel_rfl
  liesBuilder := by kernel_rfl
  t5 := Tryz.underlying5
  a5 := Tryz.isAgg5
  z5 := Tryz.sizeOf5
  v5 := Tryz.zeroValue5
  infoByte := by kernel_rfl
  cellsByte := by kernel_rfl
  sizeByte := by kernel_rfl
  neB5 := by decide }
open Go.RowKit in
theorem Tryz.strings_ToLower_ascii (s : ByteArray) (w : World) (hs : s.size ≤ 140737488355328) (hascii : ∀ (j : Nat) (b : UInt8), s.data.toList[j]? = some b → b.toNat < 128) :
    Calls Tryz.prog 122 #[.string s] w fun e w' => e = .returned (.string ⟨(Lib.toLowerA s.data.toList).toArray⟩) ∧ Below w.heap.size w w' := Any.strings_ToLower_ascii Tryz.lays159 Tryz.Builder_Extra_159 s w hs hascii
def Tryz.lays161_ren : Go.Shelf.Ren := ⟨fun | 161 => 117 | 231 => 196 | 227 => 197 | 233 => 198 | 235 => 199 | 228 => 276 | 197 => 217 | 151 => 277 | 260 => 296 | 152 => 334 | 137 => 120 | 119 => 360 | 224 => 336 | 225 => 335 | 217 => 202 | 266 => 279 | n => n, fun | 9 => 9 | 4 => 4 | 3 => 3 | 5 => 5 | 117 => 249 | 116 => 248 | 0 => 0 | 124 => 252 | 105 => 266 | 21 => 21 | 119 => 376 | 46 => 276 | 139 => 379 | 138 => 378 | n => n, fun | 3 => 5 | 4 => 6 | n => n⟩
theorem Tryz.lays161 : Go.Proofs.Lays.n161 Tryz.prog Tryz.lays161_ren := {
  mixed := by kernel_rfl
  f119 := Tryz.func360.trans (congrArg some (by kernel_rfl))
  f137 := Tryz.func120.trans (congrArg some (by kernel_rfl))
  f151 := Tryz.func277.trans (congrArg some (by kernel_rfl))
  f152 := Tryz.func334.trans (congrArg some (by kernel_rfl))
  f161 := Tryz.func117.trans (congrArg some (by kernel_rfl))
  f197 := Tryz.func217.trans (congrArg some (by kernel_rfl))
  f217 := Tryz.func202.trans (congrArg some (by kernel_rfl))
  f224 := Tryz.func336.trans (congrArg some (by kernel_rfl))
  f225 := Tryz.func335.trans (congrArg some (by kernel_rfl))
  f227 := Tryz.func197.trans (congrArg some (by kernel_rfl))
  f228 := Tryz.func276.trans (congrArg some (by kernel_rfl))
  f231 := Tryz.func196.trans (congrArg some (by kernel_rfl))
  f233 := Tryz.func198.trans (congrArg some (by kernel_rfl))
  f235 := Tryz.func199.trans (congrArg some (by kernel_rfl))
  f260 := Tryz.func296.trans (congrArg some (by kernel_rfl))
  f266 := Tryz.func279.trans (congrArg some (by kernel_rfl))
  t0 := Tryz.underlying0
  a0 := Tryz.isAgg0
  z0 := Tryz.sizeOf0
  v0 := Tryz.zeroValue0
  t3 := Tryz.underlying3
  a3 := Tryz.isAgg3
  z3 := Tryz.sizeOf3
  v3 := Tryz.zeroValue3
  t4 := Tryz.underlying4
  a4 := Tryz.isAgg4
  z4 := Tryz.sizeOf4
  v4 := Tryz.zeroValue4
  t5 := Tryz.underlying5
  a5 := Tryz.isAgg5
  z5 := Tryz.sizeOf5
  v5 := Tryz.zeroValue5
  t9 := Tryz.underlying9
  a9 := Tryz.isAgg9
  z9 := Tryz.sizeOf9
  v9 := Tryz.zeroValue9
  t21 := Tryz.underlying21
  a21 := Tryz.isAgg21
  z21 := Tryz.sizeOf21
  v21 := Tryz.zeroValue21
  t46 := Tryz.underlying276
  a46 := Tryz.isAgg276
  z46 := Tryz.sizeOf276
  v46 := Tryz.zeroValue276
  t105 := Tryz.underlying266
  a105 := Tryz.isAgg266
  z105 := Tryz.sizeOf266
  v105 := Tryz.zeroValue266
  t116 := Tryz.underlying248
  a116 := Tryz.isAgg248
  z116 := Tryz.sizeOf248
  t117 := Tryz.underlying249
  a117 := Tryz.isAgg249
  z117 := Tryz.sizeOf249
  v117 := Tryz.zeroValue249
  t119 := Tryz.underlying376
  a119 := Tryz.isAgg376
  z119 := Tryz.sizeOf376
  t124 := Tryz.underlying252
  a124 := Tryz.isAgg252
  z124 := Tryz.sizeOf252
  v124 := Tryz.zeroValue252
  t138 := Tryz.underlying378
  a138 := Tryz.isAgg378
  z138 := Tryz.sizeOf378
  v138 := Tryz.zeroValue378
  t139 := Tryz.underlying379
  a139 := Tryz.isAgg379
  z139 := Tryz.sizeOf379
  v139 := Tryz.zeroValue379
  g3 := by kernel_rfl
  g4 := by kernel_rfl }
def Tryz.lays137_ren : Go.Shelf.Ren := ⟨fun | 137 => 120 | 217 => 202 | 266 => 279 | n => n, fun | 9 => 9 | 5 => 5 | 3 => 3 | n => n, fun | n => n⟩
theorem Tryz.lays137 : Go.Proofs.Lays.n137 Tryz.prog Tryz.lays137_ren := {
  mixed := by kernel_rfl
  f137 := Tryz.func120.trans (congrArg some (by kernel_rfl))
  f217 := Tryz.func202.trans (congrArg some (by kernel_rfl))
  f266 := Tryz.func279.trans (congrArg some (by kernel_rfl))
  t3 := Tryz.underlying3
  a3 := Tryz.isAgg3
  z3 := Tryz.sizeOf3
  v3 := Tryz.zeroValue3
  t5 := Tryz.underlying5
  a5 := Tryz.isAgg5
  z5 := Tryz.sizeOf5
  v5 := Tryz.zeroValue5
  t9 := Tryz.underlying9
  a9 := Tryz.isAgg9
  z9 := Tryz.sizeOf9
  v9 := Tryz.zeroValue9 }
open Go.RowKit in
theorem Tryz.strings_IndexByte (s : ByteArray) (c : Int) (w : World) :
    Calls Tryz.prog 120 #[.string s, .int .u8 c] w fun e w' => e = .returned (.int .i64 (Lib.indexByte s.data.toList c.toNat.toUInt8)) ∧ w' = w := Any.strings_IndexByte Tryz.lays137 s c w
def Tryz.laysC174_ren : Go.Shelf.Ren := ⟨fun | 174 => 123 | 247 => 206 | 245 => 207 | 287 => 284 | 279 => 285 | 280 => 286 | 281 => 287 | 282 => 288 | 321 => 340 | 322 => 341 | 316 => 342 | 171 => 344 | 205 => 343 | 243 => 365 | 246 => 128 | 283 => 211 | 284 => 212 | 285 => 213 | 286 => 214 | 129 => 256 | 317 => 290 | 318 => 291 | 319 => 292 | 320 => 293 | 337 => 345 | 338 => 346 | n => n, fun | 9 => 9 | 3 => 3 | 2 => 2 | 75 => 163 | 85 => 164 | 4 => 4 | 167 => 316 | 5 => 5 | 53 => 105 | 175 => 317 | 46 => 276 | 168 => 319 | 37 => 36 | 0 => 0 | 210 => 374 | 21 => 21 | 127 => 260 | 145 => 400 | 143 => 398 | 171 => 261 | 173 => 264 | 212 => 337 | 51 => 338 | 20 => 20 | 213 => 339 | 232 => 401 | 233 => 402 | 80 => 171 | n => n, fun | 15 => 4 | 16 => 0 | 17 => 1 | 18 => 7 | 19 => 8 | n => n⟩
theorem Tryz.laysC174 : Go.Proofs.LaysC.n174 Tryz.prog Tryz.laysC174_ren := {
  mixed := by kernel_rfl
  f129 := Tryz.func256.trans (congrArg some (by kernel_rfl))
  f171 := Tryz.func344.trans (congrArg some (by kernel_rfl))
  f174 := Tryz.func123.trans (congrArg some (by kernel_rfl))
  f205 := Tryz.func343.trans (congrArg some (by kernel_rfl))
  f243 := Tryz.func365.trans (congrArg some (by kernel_rfl))
  f245 := Tryz.func207.trans (congrArg some (by kernel_rfl))
  f246 := Tryz.func128.trans (congrArg some (by kernel_rfl))
  f247 := Tryz.func206.trans (congrArg some (by kernel_rfl))
  f279 := Tryz.func285.trans (congrArg some (by kernel_rfl))
  f280 := Tryz.func286.trans (congrArg some (by kernel_rfl))
  f281 := Tryz.func287.trans (congrArg some (by kernel_rfl))
  f282 := Tryz.func288.trans (congrArg some (by kernel_rfl))
  f283 := Tryz.func211.trans (congrArg some (by kernel_rfl))
  f284 := Tryz.func212.trans (congrArg some (by kernel_rfl))
  f285 := Tryz.func213.trans (congrArg some (by kernel_rfl))
  f286 := Tryz.func214.trans (congrArg some (by kernel_rfl))
  f287 := Tryz.func284.trans (congrArg some (by kernel_rfl))
  f316 := Tryz.func342.trans (congrArg some (by kernel_rfl))
  f317 := Tryz.func290.trans (congrArg some (by kernel_rfl))
  f318 := Tryz.func291.trans (congrArg some (by kernel_rfl))
  f319 := Tryz.func292.trans (congrArg some (by kernel_rfl))
  f320 := Tryz.func293.trans (congrArg some (by kernel_rfl))
  f321 := Tryz.func340.trans (congrArg some (by kernel_rfl))
  f322 := Tryz.func341.trans (congrArg some (by kernel_rfl))
  f337 := Tryz.func345.trans (congrArg some (by kernel_rfl))
  f338 := Tryz.func346.trans (congrArg some (by kernel_rfl))
  t0 := Tryz.underlying0
  a0 := Tryz.isAgg0
  z0 := Tryz.sizeOf0
  v0 := Tryz.zeroValue0
  t2 := Tryz.underlying2
  a2 := Tryz.isAgg2
  z2 := Tryz.sizeOf2
  v2 := Tryz.zeroValue2
  t3 := Tryz.underlying3
  a3 := Tryz.isAgg3
  z3 := Tryz.sizeOf3
  v3 := Tryz.zeroValue3
  t4 := Tryz.underlying4
  a4 := Tryz.isAgg4
  z4 := Tryz.sizeOf4
  v4 := Tryz.zeroValue4
  t5 := Tryz.underlying5
  a5 := Tryz.isAgg5
  z5 := Tryz.sizeOf5
  v5 := Tryz.zeroValue5
  t9 := Tryz.underlying9
  a9 := Tryz.isAgg9
  z9 := Tryz.sizeOf9
  v9 := Tryz.zeroValue9
  t20 := Tryz.underlying20
  a20 := Tryz.isAgg20
  z20 := Tryz.sizeOf20
  v20 := Tryz.zeroValue20
  t21 := Tryz.underlying21
  a21 := Tryz.isAgg21
  z21 := Tryz.sizeOf21
  v21 := Tryz.zeroValue21
  t37 := Tryz.underlying36
  a37 := Tryz.isAgg36
  z37 := Tryz.sizeOf36
  v37 := Tryz.zeroValue36
  t46 := Tryz.underlying276
  a46 := Tryz.isAgg276
  z46 := Tryz.sizeOf276
  v46 := Tryz.zeroValue276
  t51 := Tryz.underlying338
  a51 := Tryz.isAgg338
  z51 := Tryz.sizeOf338
  v51 := Tryz.zeroValue338
  t53 := Tryz.underlying105
  a53 := Tryz.isAgg105
  z53 := Tryz.sizeOf105
  v53 := Tryz.zeroValue105
  t75 := Tryz.underlying163
  a75 := Tryz.isAgg163
  z75 := Tryz.sizeOf163
  v75 := Tryz.zeroValue163
  t85 := Tryz.underlying164
  a85 := Tryz.isAgg164
  z85 := Tryz.sizeOf164
  v85 := Tryz.zeroValue164
  t127 := Tryz.underlying260
  a127 := Tryz.isAgg260
  z127 := Tryz.sizeOf260
  v127 := Tryz.zeroValue260
  t143 := Tryz.underlying398
  a143 := Tryz.isAgg398
  z143 := Tryz.sizeOf398
  v143 := Tryz.zeroValue398
  t145 := Tryz.underlying400
  a145 := Tryz.isAgg400
  z145 := Tryz.sizeOf400
  v145 := Tryz.zeroValue400
  t167 := Tryz.underlying316
  a167 := Tryz.isAgg316
  z167 := Tryz.sizeOf316
  v167 := Tryz.zeroValue316
  t168 := Tryz.underlying319
  a168 := Tryz.isAgg319
  z168 := Tryz.sizeOf319
  v168 := Tryz.zeroValue319
  t171 := Tryz.underlying261
  a171 := Tryz.isAgg261
  z171 := Tryz.sizeOf261
  v171 := Tryz.zeroValue261
  t173 := Tryz.underlying264
  a173 := Tryz.isAgg264
  z173 := Tryz.sizeOf264
  v173 := Tryz.zeroValue264
  t175 := Tryz.underlying317
  a175 := Tryz.isAgg317
  z175 := Tryz.sizeOf317
  v175 := Tryz.zeroValue317
  t210 := Tryz.underlying374
  a210 := Tryz.isAgg374
  z210 := Tryz.sizeOf374
  v210 := Tryz.zeroValue374
  t212 := Tryz.underlying337
  a212 := Tryz.isAgg337
  z212 := Tryz.sizeOf337
  v212 := Tryz.zeroValue337
  t213 := Tryz.underlying339
  a213 := Tryz.isAgg339
  z213 := Tryz.sizeOf339
  t232 := Tryz.underlying401
  a232 := Tryz.isAgg401
  z232 := Tryz.sizeOf401
  v232 := Tryz.zeroValue401
  t233 := Tryz.underlying402
  a233 := Tryz.isAgg402
  z233 := Tryz.sizeOf402
  v233 := Tryz.zeroValue402
  g15 := by kernel_rfl
  g16 := by kernel_rfl
  g17 := by kernel_rfl
  g18 := by kernel_rfl
  g19 := by kernel_rfl
  t80 := Tryz.underlying171
  a80 := Tryz.isAgg171
  z80 := Tryz.sizeOf171
  v80 := Tryz.zeroValue171
  i0 := by kernel_rfl
  i2 := by kernel_rfl
  i3 := by kernel_rfl
  i4 := by kernel_rfl
  i5 := by kernel_rfl
  i9 := by kernel_rfl
  i20 := by kernel_rfl
  i21 := by kernel_rfl
  i37 := by kernel_rfl
  i46 := by kernel_rfl
  i51 := by kernel_rfl
  i53 := by kernel_rfl
  i75 := by kernel_rfl
  i80 := by kernel_rfl
  i85 := by kernel_rfl
  i127 := by kernel_rfl
  i143 := by kernel_rfl
  i145 := by kernel_rfl
  i167 := by kernel_rfl
  i168 := by kernel_rfl
  i171 := by kernel_rfl
  i173 := by kernel_rfl
  i175 := by kernel_rfl
  i210 := by kernel_rfl
  i212 := by kernel_rfl
  i232 := by kernel_rfl
  i233 := by kernel_rfl
  m15 := by kernel_rfl
  m16 := by kernel_rfl
  m17 := by kernel_rfl
  m18 := by kernel_rfl
  m19 := by kernel_rfl
  c0 := by kernel_rfl
  c2 := by kernel_rfl
  c3 := by kernel_rfl
  c4 := by kernel_rfl
  c5 := by kernel_rfl
  c9 := by kernel_rfl
  c20 := by kernel_rfl
  c21 := by kernel_rfl
  c37 := by kernel_rfl
  c46 := by kernel_rfl
  c51 := by kernel_rfl
  c53 := by kernel_rfl
  c75 := by kernel_rfl
  c80 := by kernel_rfl
  c85 := by kernel_rfl
  c127 := by kernel_rfl
  c143 := by kernel_rfl
  c145 := by kernel_rfl
  c167 := by kernel_rfl
  c168 := by kernel_rfl
  c171 := by kernel_rfl
  c173 := by kernel_rfl
  c175 := by kernel_rfl
  c210 := by kernel_rfl
  c212 := by kernel_rfl
  c213 := by kernel_rfl
  c232 := by kernel_rfl
  c233 := by kernel_rfl }
open Go.RowKit in
theorem Tryz.strconv_ParseInt_10_at64_ok (s : ByteArray) (hmax : s.size ≤ 9223372036854775806) (v : Int) (h : Lib.parseIntB 64 s.data.toList = .ok v) (w : World) :
    Calls Tryz.prog 123 #[.string s, .int .i64 10, .int .i64 64] w fun e w' => e = .returned (.tuple #[.int .i64 v, .nilIface]) ∧ (w' = w ∨ ∃ t, w' = Lib.bytesWorld w 5 t) := Any.strconv_ParseInt_10_at64_ok Tryz.laysC174 s hmax v h w
open Go.RowKit in
theorem Tryz.strconv_ParseInt_10_at64_range_var (s : ByteArray) (hlim : s.size ≤ 281474976710656) (h : Lib.parseIntB 64 s.data.toList = .range) (tp : TypeId) (p : Value) (w : World) (hvar : w.var? Tryz.prog "strconv.ErrRange" = some #[.iface tp p]) :
    Calls Tryz.prog 123 #[.string s, .int .i64 10, .int .i64 64] w fun e w' => ∃ N, e = .returned (.tuple #[.int .i64 (Lib.intSat 64 s.data.toList), .iface 319 (.pointer (some ⟨N, 0, none⟩))]) ∧ w.heap.size ≤ N ∧ w'.heap[N]? = some (.cells #[.string ⟨#[80, 97, 114, 115, 101, 73, 110, 116]⟩, .string s, .iface tp p] 374 (0, 0)) ∧ Below w.heap.size w w' := Any.strconv_ParseInt_10_at64_range_var Tryz.laysC174 s hlim h tp p w hvar
def Tryz.lays145_ren : Go.Shelf.Ren := ⟨fun | 145 => 119 | 220 => 201 | 219 => 278 | 217 => 202 | 225 => 335 | 224 => 336 | 267 => 337 | 266 => 279 | 314 => 361 | n => n, fun | 9 => 9 | 4 => 4 | 59 => 158 | 3 => 3 | 5 => 5 | 46 => 276 | 146 => 393 | 51 => 338 | n => n, fun | 1 => 2 | n => n⟩
theorem Tryz.lays145 : Go.Proofs.Lays.n145 Tryz.prog Tryz.lays145_ren := {
  mixed := by kernel_rfl
  f145 := Tryz.func119.trans (congrArg some (by kernel_rfl))
  f217 := Tryz.func202.trans (congrArg some (by kernel_rfl))
  f219 := Tryz.func278.trans (congrArg some (by kernel_rfl))
  f220 := Tryz.func201.trans (congrArg some (by kernel_rfl))
  f224 := Tryz.func336.trans (congrArg some (by kernel_rfl))
  f225 := Tryz.func335.trans (congrArg some (by kernel_rfl))
  f266 := Tryz.func279.trans (congrArg some (by kernel_rfl))
  f267 := Tryz.func337.trans (congrArg some (by kernel_rfl))
  f314 := Tryz.func361.trans (congrArg some (by kernel_rfl))
  t3 := Tryz.underlying3
  a3 := Tryz.isAgg3
  z3 := Tryz.sizeOf3
  v3 := Tryz.zeroValue3
  t4 := Tryz.underlying4
  a4 := Tryz.isAgg4
  z4 := Tryz.sizeOf4
  v4 := Tryz.zeroValue4
  t5 := Tryz.underlying5
  a5 := Tryz.isAgg5
  z5 := Tryz.sizeOf5
  v5 := Tryz.zeroValue5
  t9 := Tryz.underlying9
  a9 := Tryz.isAgg9
  z9 := Tryz.sizeOf9
  v9 := Tryz.zeroValue9
  t46 := Tryz.underlying276
  a46 := Tryz.isAgg276
  z46 := Tryz.sizeOf276
  v46 := Tryz.zeroValue276
  t51 := Tryz.underlying338
  a51 := Tryz.isAgg338
  z51 := Tryz.sizeOf338
  v51 := Tryz.zeroValue338
  t59 := Tryz.underlying158
  a59 := Tryz.isAgg158
  z59 := Tryz.sizeOf158
  v59 := Tryz.zeroValue158
  t146 := Tryz.underlying393
  a146 := Tryz.isAgg393
  z146 := Tryz.sizeOf393
  v146 := Tryz.zeroValue393
  g1 := by kernel_rfl }
open Go.RowKit Go.Lib in
theorem Tryz.strings_Cut (s sep : ByteArray) (m : Int) (w : World) (hs : s.size < 4294967281) (hm : w.cell? ⟨2, 0, none⟩ = some (.int .i64 m)) :
    Calls Tryz.prog 119 #[.string s, .string sep] w fun e w' => e = .returned (.tuple #[.string ⟨(Lib.cut s.data.toList sep.data.toList).1.toArray⟩, .string ⟨(Lib.cut s.data.toList sep.data.toList).2.1.toArray⟩, .bool (Lib.cut s.data.toList sep.data.toList).2.2]) ∧ ∃ n, w' = w.drewN n := Any.strings_Cut Tryz.lays145 s sep m w hs hm
def Tryz.lays99_ren : Go.Shelf.Ren := ⟨fun | 99 => 118 | 206 => 200 | n => n, fun | 9 => 9 | 4 => 4 | 3 => 3 | n => n, fun | n => n⟩
theorem Tryz.lays99 : Go.Proofs.Lays.n99 Tryz.prog Tryz.lays99_ren := {
  mixed := by kernel_rfl
  f99 := Tryz.func118.trans (congrArg some (by kernel_rfl))
  f206 := Tryz.func200.trans (congrArg some (by kernel_rfl))
  t3 := Tryz.underlying3
  a3 := Tryz.isAgg3
  z3 := Tryz.sizeOf3
  v3 := Tryz.zeroValue3
  t4 := Tryz.underlying4
  a4 := Tryz.isAgg4
  z4 := Tryz.sizeOf4
  v4 := Tryz.zeroValue4
  t9 := Tryz.underlying9
  a9 := Tryz.isAgg9
  z9 := Tryz.sizeOf9
  v9 := Tryz.zeroValue9 }
open Go.RowKit Go.Lib in
theorem Tryz.strings_HasPrefix (s p : ByteArray) (w : World) :
    Calls Tryz.prog 118 #[.string s, .string p] w fun e w' => e = .returned (.bool (Lib.hasPrefix s.data.toList p.data.toList)) ∧ w' = w := Any.strings_HasPrefix Tryz.lays99 s p w
def Tryz.lays155_ren : Go.Shelf.Ren := ⟨fun | 155 => 65 | 154 => 129 | 138 => 215 | 165 => 130 | 143 => 216 | 166 => 131 | 197 => 217 | 169 => 126 | 195 => 294 | 218 => 295 | 240 => 210 | 241 => 218 | 219 => 278 | 260 => 296 | 276 => 289 | 277 => 297 | 217 => 202 | 225 => 335 | 224 => 336 | 267 => 337 | 266 => 279 | 314 => 361 | n => n, fun | 9 => 9 | 3 => 3 | 4 => 4 | 72 => 169 | 0 => 0 | 76 => 175 | 105 => 266 | 21 => 21 | 5 => 5 | 70 => 167 | 20 => 20 | 37 => 36 | 75 => 163 | 127 => 260 | 164 => 333 | 46 => 276 | 119 => 376 | 139 => 379 | 138 => 378 | 146 => 393 | 51 => 338 | 80 => 171 | n => n, fun | 1 => 2 | 3 => 5 | 4 => 6 | n => n⟩
theorem Tryz.lays155 : Go.Proofs.Lays.n155 Tryz.prog Tryz.lays155_ren := {
  mixed := by kernel_rfl
  f138 := Tryz.func215.trans (congrArg some (by kernel_rfl))
  f143 := Tryz.func216.trans (congrArg some (by kernel_rfl))
  f154 := Tryz.func129.trans (congrArg some (by kernel_rfl))
  f155 := Tryz.func65.trans (congrArg some (by kernel_rfl))
  f165 := Tryz.func130.trans (congrArg some (by kernel_rfl))
  f166 := Tryz.func131.trans (congrArg some (by kernel_rfl))
  f169 := Tryz.func126.trans (congrArg some (by kernel_rfl))
  f195 := Tryz.func294.trans (congrArg some (by kernel_rfl))
  f197 := Tryz.func217.trans (congrArg some (by kernel_rfl))
  f217 := Tryz.func202.trans (congrArg some (by kernel_rfl))
  f218 := Tryz.func295.trans (congrArg some (by kernel_rfl))
  f219 := Tryz.func278.trans (congrArg some (by kernel_rfl))
  f224 := Tryz.func336.trans (congrArg some (by kernel_rfl))
  f225 := Tryz.func335.trans (congrArg some (by kernel_rfl))
  f240 := Tryz.func210.trans (congrArg some (by kernel_rfl))
  f241 := Tryz.func218.trans (congrArg some (by kernel_rfl))
  f260 := Tryz.func296.trans (congrArg some (by kernel_rfl))
  f266 := Tryz.func279.trans (congrArg some (by kernel_rfl))
  f267 := Tryz.func337.trans (congrArg some (by kernel_rfl))
  f276 := Tryz.func289.trans (congrArg some (by kernel_rfl))
  f277 := Tryz.func297.trans (congrArg some (by kernel_rfl))
  f314 := Tryz.func361.trans (congrArg some (by kernel_rfl))
  t0 := Tryz.underlying0
  a0 := Tryz.isAgg0
  z0 := Tryz.sizeOf0
  v0 := Tryz.zeroValue0
  t3 := Tryz.underlying3
  a3 := Tryz.isAgg3
  z3 := Tryz.sizeOf3
  v3 := Tryz.zeroValue3
  t4 := Tryz.underlying4
  a4 := Tryz.isAgg4
  z4 := Tryz.sizeOf4
  v4 := Tryz.zeroValue4
  t5 := Tryz.underlying5
  a5 := Tryz.isAgg5
  z5 := Tryz.sizeOf5
  v5 := Tryz.zeroValue5
  t9 := Tryz.underlying9
  a9 := Tryz.isAgg9
  z9 := Tryz.sizeOf9
  v9 := Tryz.zeroValue9
  t20 := Tryz.underlying20
  a20 := Tryz.isAgg20
  z20 := Tryz.sizeOf20
  v20 := Tryz.zeroValue20
  t21 := Tryz.underlying21
  a21 := Tryz.isAgg21
  z21 := Tryz.sizeOf21
  v21 := Tryz.zeroValue21
  t37 := Tryz.underlying36
  a37 := Tryz.isAgg36
  z37 := Tryz.sizeOf36
  v37 := Tryz.zeroValue36
  t46 := Tryz.underlying276
  a46 := Tryz.isAgg276
  z46 := Tryz.sizeOf276
  v46 := Tryz.zeroValue276
  t51 := Tryz.underlying338
  a51 := Tryz.isAgg338
  z51 := Tryz.sizeOf338
  v51 := Tryz.zeroValue338
  t70 := Tryz.underlying167
  a70 := Tryz.isAgg167
  z70 := Tryz.sizeOf167
  v70 := Tryz.zeroValue167
  t72 := Tryz.underlying169
  a72 := Tryz.isAgg169
  z72 := Tryz.sizeOf169
  v72 := Tryz.zeroValue169
  t75 := Tryz.underlying163
  a75 := Tryz.isAgg163
  z75 := Tryz.sizeOf163
  v75 := Tryz.zeroValue163
  t76 := Tryz.underlying175
  a76 := Tryz.isAgg175
  z76 := Tryz.sizeOf175
  v76 := Tryz.zeroValue175
  t105 := Tryz.underlying266
  a105 := Tryz.isAgg266
  z105 := Tryz.sizeOf266
  v105 := Tryz.zeroValue266
  t119 := Tryz.underlying376
  a119 := Tryz.isAgg376
  z119 := Tryz.sizeOf376
  t127 := Tryz.underlying260
  a127 := Tryz.isAgg260
  z127 := Tryz.sizeOf260
  v127 := Tryz.zeroValue260
  t138 := Tryz.underlying378
  a138 := Tryz.isAgg378
  z138 := Tryz.sizeOf378
  v138 := Tryz.zeroValue378
  t139 := Tryz.underlying379
  a139 := Tryz.isAgg379
  z139 := Tryz.sizeOf379
  v139 := Tryz.zeroValue379
  t146 := Tryz.underlying393
  a146 := Tryz.isAgg393
  z146 := Tryz.sizeOf393
  v146 := Tryz.zeroValue393
  t164 := Tryz.underlying333
  a164 := Tryz.isAgg333
  z164 := Tryz.sizeOf333
  v164 := Tryz.zeroValue333
  g1 := by kernel_rfl
  g3 := by kernel_rfl
  g4 := by kernel_rfl }
theorem Tryz.Builder_Extra_155 : Builder.Extra Tryz.prog Tryz.lays155_ren := {
  sizeBuilder := by kernel_rfl
  liesBuilder := by kernel_rfl
  t5 := Tryz.underlying5
  a5 := Tryz.isAgg5
  z5 := Tryz.sizeOf5
  v5 := Tryz.zeroValue5
  infoByte := by kernel_rfl
  cellsByte := by kernel_rfl
  sizeByte := by kernel_rfl
  neB5 := by decide }
open Go.RowKit Go.Lib in
theorem Tryz.strings_ReplaceAll (s old new : ByteArray) (m : Int) (w : World) (hs : s.size < 4294967281) (hm : w.cell? ⟨2, 0, none⟩ = some (.int .i64 m)) (h1 : 1 ≤ old.size) (hlen : s.size + Lib.countB s old * new.size ≤ 140737488355328) :
    Calls Tryz.prog 65 #[.string s, .string old, .string new] w fun e w' =>
      e = .returned (.string ⟨(Lib.replaceAll s.data.toList old.data.toList new.data.toList).toArray⟩) ∧ Below w.heap.size w w' := Any.strings_ReplaceAll Tryz.lays155 Tryz.Builder_Extra_155 s old new m w hs hm h1 hlen
end Go.Proofs
/- lex.cutLeft: a text without the first bytes that are among a set of ASCII: two ranges over strings, one in the other. -/
namespace Go.Proofs.YtcgdncpioafbdaaGreatDoor.Q
open Go Go.RowKit
theorem width_pos (s : ByteArray) (pos : Nat) (h : pos < s.size) : 1 ≤ (Utf8.decode s pos).2 := by
  by_cases ha : (s[pos]'h).toNat < 128
  · rw [decode_ascii s pos h ha]
    exact Nat.le_refl _
  · exact (decode_high s pos h (by omega)).2
/-- Is a number among the first bytes of a set? -/
def anyTo (set : ByteArray) (p : Nat) (c : Int) : Bool := (set.data.toList.take p).any fun x => (x.toNat : Int) == c
theorem anyTo_zero (set : ByteArray) (c : Int) : anyTo set 0 c = false := by simp [anyTo]
theorem anyTo_succ (set : ByteArray) (p : Nat) (c : Int) (h : p < set.size) : anyTo set (p + 1) c = (anyTo set p c || (c == ((set[p]'h).toNat : Int))) := by
  unfold anyTo
  rw [List.take_succ_eq_append_getElem (by simpa using h)]
  simp only [List.any_append, List.any_cons, List.any_nil, Bool.or_false]
  congr 1
  rw [Bool.eq_iff_iff]
  simp
  exact eq_comm
theorem anyTo_all (set : ByteArray) (c : Int) : anyTo set set.size c = set.data.toList.any fun x => (x.toNat : Int) == c := by
  unfold anyTo
  rw [List.take_of_length_le (by simp)]
def AsciiSet (set : ByteArray) : Prop := ∀ (p : Nat) (h : p < set.size), (set[p]'h).toNat < 128
theorem asciiSet_of {set : ByteArray} (h : set.data.toList.all (fun x => x.toNat < 128) = true) : AsciiSet set := by
  intro p hp
  have := List.all_eq_true.1 h (set[p]'hp) (by
    rw [List.mem_iff_getElem?]
    exact ⟨p, by simp [List.getElem?_eq_getElem (show p < set.data.toList.length by simpa using hp)]; rfl⟩)
  simpa using this
/-- How it was: the first bytes up to pos are all in the set. -/
def inTo (s set : ByteArray) (pos : Nat) : Prop := pos ≤ s.size ∧ ∀ x ∈ s.data.toList.take pos, set.data.toList.contains x = true
theorem any_byte {s set : ByteArray} (hset : AsciiSet set) (pos : Nat) (h : pos < s.size) :
    (set.data.toList.any fun x => (x.toNat : Int) == ((Utf8.decode s pos).1 : Int)) = set.data.toList.contains (s[pos]'h) := by
  by_cases ha : (s[pos]'h).toNat < 128
  · rw [decode_ascii s pos h ha]
    rw [Bool.eq_iff_iff]
    simp only [List.any_eq_true, List.contains_iff_mem, beq_iff_eq]
    constructor
    · rintro ⟨x, hx, e⟩
      have : x = s[pos] := UInt8.toNat_inj.1 (by omega)
      exact this ▸ hx
    · intro hx
      exact ⟨_, hx, rfl⟩
  · have hd := (decode_high s pos h (by omega)).1
    have h1 : (set.data.toList.any fun x => (x.toNat : Int) == ((Utf8.decode s pos).1 : Int)) = false := by
      rw [List.any_eq_false]
      intro x hx
      obtain ⟨j, hj⟩ := List.mem_iff_getElem?.1 hx
      obtain ⟨hjl, hjx⟩ := List.getElem?_eq_some_iff.1 hj
      have := hset j (by simpa using hjl)
      have e : set[j]'(by simpa using hjl) = x := hjx
      rw [e] at this
      simp
      omega
    have h2 : set.data.toList.contains (s[pos]'h) = false := by
      rw [Bool.eq_false_iff]
      intro hx
      rw [List.contains_iff_mem] at hx
      obtain ⟨j, hj⟩ := List.mem_iff_getElem?.1 hx
      obtain ⟨hjl, hjx⟩ := List.getElem?_eq_some_iff.1 hj
      have := hset j (by simpa using hjl)
      have e : set[j]'(by simpa using hjl) = s[pos] := hjx
      rw [e] at this
      omega
    rw [h1, h2]
theorem in_ascii {s set : ByteArray} (hset : AsciiSet set) (pos : Nat) (h : pos < s.size) (hc : set.data.toList.contains (s[pos]'h) = true) : (Utf8.decode s pos).2 = 1 := by
  have ha : (s[pos]'h).toNat < 128 := by
    rw [List.contains_iff_mem] at hc
    obtain ⟨j, hj⟩ := List.mem_iff_getElem?.1 hc
    obtain ⟨hjl, hjx⟩ := List.getElem?_eq_some_iff.1 hj
    have := hset j (by simpa using hjl)
    have e : set[j]'(by simpa using hjl) = s[pos] := hjx
    rw [e] at this
    exact this
  rw [decode_ascii s pos h ha]
theorem inTo_step {s set : ByteArray} {pos : Nat} (hi : inTo s set pos) (h : pos < s.size) (hc : set.data.toList.contains (s[pos]'h) = true) : inTo s set (pos + 1) := by
  refine ⟨by omega, fun x hx => ?_⟩
  rw [List.take_succ_eq_append_getElem (by simpa using h)] at hx
  rcases List.mem_append.1 hx with hx | hx
  · exact hi.2 x hx
  · have e : x = s.data.toList[pos]'(by simpa using h) := List.mem_singleton.1 hx
    rw [e]; exact hc
theorem dropWhile_at {α} (p : α → Bool) (l : List α) (n : Nat) (h : ∀ x ∈ l.take n, p x = true) (h2 : ∀ (hn : n < l.length), p (l[n]'hn) = false) : l.dropWhile p = l.drop n := by
  induction l generalizing n with
  | nil => simp
  | cons c r ih =>
    cases n with
    | zero =>
      have := h2 (by simp)
      simp at this
      simp [List.dropWhile, this]
    | succ n =>
      have hc : p c = true := h c (by simp)
      simp only [List.dropWhile, hc, List.drop_succ_cons]
      exact ih n (fun x hx => h x (by simp [hx])) (fun hn => by have := h2 (by simp; omega); simpa using this)
/-- A text without the first bytes that are among a set. -/
def cutSet (s set : ByteArray) : ByteArray := ⟨(s.data.toList.dropWhile (set.data.toList.contains ·)).toArray⟩
theorem ba_ext {a b : ByteArray} (h : a.data.toList = b.data.toList) : a = b := by
  cases a; cases b; simp at h; simpa using h
theorem cutSet_at {s set : ByteArray} {pos : Nat} (hi : inTo s set pos) (h : pos < s.size) (hc : set.data.toList.contains (s[pos]'h) = false) : cutSet s set = s.extract pos s.size := by
  apply ba_ext
  rw [Lib.extract_to_end]
  unfold cutSet
  simp only
  rw [dropWhile_at _ _ pos hi.2 (fun hn => hc)]
theorem cutSet_end {s set : ByteArray} {pos : Nat} (hi : inTo s set pos) (h : ¬ pos < s.size) : cutSet s set = ⟨#[]⟩ := by
  apply ba_ext
  unfold cutSet
  simp only
  rw [dropWhile_at _ _ pos hi.2 (fun hn => absurd (by simpa using hn) h)]
  simp
  have := hi.1
  have e : s.data.size = s.size := rfl
  omega
def CutRel (s set : ByteArray) (w wr : World) : Prop := ∃ pos, wr.heap[w.heap.size]? = some (.stringIter s pos) ∧ Below w.heap.size w wr ∧ inTo s set pos
def CutEnd (s set : ByteArray) (w : World) (e : Ending) (w' : World) : Prop := e = .returned (.string (cutSet s set)) ∧ Below w.heap.size w w'
set_option maxHeartbeats 4000000 in
set_option maxRecDepth 1000000 in
theorem cut_walk (s set : ByteArray) (hs : s.size ≤ 9223372036854775807) (hset : AsciiSet set) (w : World) :
    Calls Tryz.prog 203 #[.string s, .string set] w (CutEnd s set w) := by
  go_enter Tryz.func203, Tryz.ntmps203
  go_wp2
  go_loopw [7] (fun _ wr => CutRel s set w wr) (fun _ wr => s.size - wr.iterPos w.heap.size)
  case atStart =>
    refine ⟨0, ?_, (Below.refl _ w).alloc (Nat.le_refl _) _, Nat.zero_le _, by simp⟩
    exact World.iter_heap w s 0
  case round =>
    obtain ⟨pos, hit, hbw, hin⟩ := hrel
    by_cases hp : pos < s.size
    · have hnx : ∀ ty, (Instr.next (.pointer (some ⟨w.heap.size, 0, none⟩)) true ty).run Tryz.prog wr = _ := fun ty => Lib.run_next_any_at wr w.heap.size s pos ty hit hp
      have hit2 := Lib.iterAt_heap wr w.heap.size s pos (pos + (Utf8.decode s pos).2) hit
      have hbw2 := Lib.below_iterAt hbw (k := w.heap.size) (Nat.le_refl _) s (pos + (Utf8.decode s pos).2)
      have hsz2 : w.heap.size < (wr.iterAt w.heap.size s (pos + (Utf8.decode s pos).2)).heap.size := (Array.getElem?_eq_some_iff.1 hit2).1
      have hany := Lib.hid (any_byte hset pos hp)
      have hwid := Lib.hid (in_ascii hset pos hp)
      go_wp2
      have hpos : Hid (wr.iterPos w.heap.size = pos) := Lib.hid (by unfold World.iterPos; rw [hit])
      clear hnx hit hbw
      generalize (wr.iterAt w.heap.size s (pos + (Utf8.decode s pos).2)) = wo at *
      generalize (Utf8.decode s pos).1 = c at *
      go_loopw [7] (fun b w2 => ∃ p, p ≤ set.size ∧ w2 = wo.iter set p ∧ b = .bool (anyTo set p c)) (fun _ w2 => set.size - w2.iterPos wo.heap.size)
      case atStart => exact ⟨0, Nat.zero_le _, rfl, by rw [anyTo_zero]⟩
      case round =>
        obtain ⟨p, hpl, rfl, rfl⟩ := hrel
        by_cases hps : p < set.size
        · have ha := hset p hps
          have hnx : ∀ ty, (Instr.next (.pointer (some ⟨wo.heap.size, 0, none⟩)) true ty).run Tryz.prog (wo.iter set p) = _ := fun ty => run_next_ascii wo set p ty hps ha
          have hst := Lib.hid (anyTo_succ set p c hps)
          go_wp2
          all_goals go_roundw
          case rel => exact ⟨p + 1, by omega, rfl, by rw [hst.out]; simp [*]⟩
          case measure => simp; omega
          case rel => exact ⟨p + 1, by omega, rfl, by rw [hst.out]; simp [*]⟩
          case measure => simp; omega
        · have hnx : ∀ ty, (Instr.next (.pointer (some ⟨wo.heap.size, 0, none⟩)) true ty).run Tryz.prog (wo.iter set p) = _ := fun ty => run_next_end wo set p ty hps
          obtain rfl : p = set.size := by omega
          have hb3 : Below w.heap.size w (wo.iter set set.size) := hbw2.alloc (Nat.le_of_lt hsz2) _
          have hit3 : (wo.iter set set.size).heap[w.heap.size]? = some (.stringIter s (pos + (Utf8.decode s pos).2)) := (Lib.alloc_old wo _ w.heap.size hsz2).trans hit2
          have hall := Lib.hid (anyTo_all set (c : Int))
          have hin' := Lib.hid hin
          clear hin hbw2 hit2 hsz2
          have hend := fun h0 => cutSet_at hin'.out hp h0
          have hstep := fun h0 => inTo_step hin'.out hp h0
          cases hb : anyTo set set.size (c : Int) with
          | false =>
            have hc : set.data.toList.contains (s[pos]'hp) = false := by rw [← hany.out, ← hall.out]; exact hb
            have he := Lib.hid (hend hc)
            clear hend hstep
            go_wp2
            go_ret
            exact ⟨by rw [he.out]; rfl, hb3⟩
          | true =>
            have hc : set.data.toList.contains (s[pos]'hp) = true := by rw [← hany.out, ← hall.out]; exact hb
            have hw1 := hwid.out hc
            rw [hw1] at hit3
            have hs1 := hstep hc
            have hR : Hid (CutRel s set w (wo.iter set set.size)) := Lib.hid ⟨pos + 1, hit3, hb3, hs1⟩
            have hM : Hid (s.size - (wo.iter set set.size).iterPos w.heap.size < s.size - wr.iterPos w.heap.size) := Lib.hid (by
              have e1 : (wo.iter set set.size).iterPos w.heap.size = pos + 1 := by unfold World.iterPos; rw [hit3]
              rw [e1, hpos.out]; omega)
            clear hend hstep hw1 hit3 hb3 hs1 hc
            go_wp2
            exact ⟨hR.out, hM.out⟩
    · have hnx : ∀ ty, (Instr.next (.pointer (some ⟨w.heap.size, 0, none⟩)) true ty).run Tryz.prog wr = _ := fun ty => Lib.run_next_end_at wr w.heap.size s pos ty hit hp
      have he := Lib.hid (cutSet_end hin hp)
      go_wp2
      go_ret
      exact ⟨by rw [he.out]; rfl, hbw⟩
end Go.Proofs.YtcgdncpioafbdaaGreatDoor.Q
/- The library's functions that this seat calls, by the shelf's contracts, in the shape in which the seat's printed walks meet a callee. -/
namespace Go.Proofs.YtcgdncpioafbdaaGreatDoor.Q
open Go Go.RowKit Go.Proofs.YtcgdncpioafbdaaGreatDoorW.PrintWords
theorem below_drewN' (w : World) (n : Nat) : Below w.heap.size w (w.drewN n) := pw_below_drewN (Below.refl _ _) n
theorem strings_TrimLeft.calls (a0 a1 r : ByteArray) (w : World) (h : strings_TrimLeft.f a0 a1 = some r) :
    Calls Tryz.prog 117 #[.string a0, .string a1] w fun e w' => e = .returned (.string r) ∧ Below w.heap.size w w' := by
  unfold strings_TrimLeft.f at h
  split at h
  · rename_i hc
    cases h
    have e : a1 = ⟨#[32, 9, 10, 13]⟩ := ba_ext hc
    subst e
    have c := Any.strings_TrimLeft_laid Tryz.lays161 (by kernel_rfl) a0 ⟨#[32, 9, 10, 13]⟩ w (by decide) (ascii_of_all (by decide))
    exact c
  · cases h
theorem strings_HasPrefix.calls (a0 a1 : ByteArray) (r : Bool) (w : World) (h : strings_HasPrefix.f a0 a1 = some r) :
    Calls Tryz.prog 118 #[.string a0, .string a1] w fun e w' => e = .returned (.bool r) ∧ Drawn0 w w' := by
  cases h
  refine (Tryz.strings_HasPrefix a0 a1 w).mono ?_
  rintro e w' ⟨rfl, rfl⟩
  exact ⟨rfl, Drawn0.refl _⟩
theorem index_one (l : List UInt8) (c : UInt8) : (Lib.index l [c] = -1 ∧ l.takeWhile (· != c) = l ∧ l.dropWhile (· != c) = [] ∧ l.contains c = false) ∨ ∃ i : Nat, Lib.index l [c] = i ∧ l.take i = l.takeWhile (· != c) ∧ l.drop (i + 1) = (l.dropWhile (· != c)).drop 1 ∧ l.contains c = true := by
  induction l with
  | nil => exact .inl ⟨rfl, rfl, rfl, rfl⟩
  | cons b l ih =>
    by_cases hb : b = c
    · subst hb
      refine .inr ⟨0, ?_, ?_, ?_, ?_⟩ <;> simp [Lib.index]
    · have hp : [c].isPrefixOf (b :: l) = false := by simp [List.isPrefixOf, Ne.symm hb]
      have hbc : (b != c) = true := by simpa using hb
      have hcb : (c == b) = false := by simpa using Ne.symm hb
      rcases ih with ⟨h1, h2, h3, h4⟩ | ⟨i, h1, h2, h3, h4⟩
      · refine .inl ⟨by simp [Lib.index, hp, h1], by simp [List.takeWhile, hbc, h2], by simp [List.dropWhile, hbc, h3], by rw [List.contains_cons, hcb, h4]; rfl⟩
      · refine .inr ⟨i + 1, ?_, ?_, ?_, ?_⟩
        · have hne : (Lib.index l [c] == -1) = false := by rw [h1]; simp
          simp [Lib.index, hp, h1]
        · simp [List.takeWhile, hbc, h2]
        · simp only [List.drop_succ_cons, List.dropWhile, hbc, h3]
        · rw [List.contains_cons, h4]; simp
theorem strings_Cut.calls (a0 a1 r1 r2 : ByteArray) (r3 : Bool) (w : World) (h : strings_Cut.f a0 a1 = some (r1, r2, r3)) (hG : GV w) :
    Calls Tryz.prog 119 #[.string a0, .string a1] w fun e w' => e = .returned (.tuple #[.string r1, .string r2, .bool r3]) ∧ Below w.heap.size w w' := by
  unfold strings_Cut.f at h
  split at h
  · rename_i hc
    split at h
    · rename_i hs
      cases h
      have e : a1 = ⟨#[10]⟩ := ba_ext hc
      subst e
      obtain ⟨m, hm⟩ := hG.max
      refine (Tryz.strings_Cut a0 ⟨#[10]⟩ m w hs hm).mono ?_
      rintro e w' ⟨rfl, n, rfl⟩
      refine ⟨?_, below_drewN' _ _⟩
      have hcut : Lib.cut a0.data.toList [10] = (a0.data.toList.takeWhile (· != 10), (a0.data.toList.dropWhile (· != 10)).drop 1, a0.data.toList.contains 10) := by
        unfold Lib.cut
        rcases index_one a0.data.toList 10 with ⟨h1, h2, h3, h4⟩ | ⟨i, h1, h2, h3, h4⟩
        · rw [h1, if_neg (by decide), h2, h3, h4]; rfl
        · rw [h1, if_pos (by omega), h4]; simp only [Int.toNat_natCast, List.length_cons, List.length_nil, Nat.zero_add]; rw [h2, h3]
      have hcut' : Lib.cut a0.data.toList (⟨#[10]⟩ : ByteArray).data.toList = _ := hcut
      rw [hcut']
      rfl
    · cases h
  · cases h
theorem strings_IndexByte.calls (a0 : ByteArray) (a1 r : Int) (w : World) (h : strings_IndexByte.f a0 a1 = some r) :
    Calls Tryz.prog 120 #[.string a0, .int .u8 a1] w fun e w' => e = .returned (.int .i64 r) ∧ Drawn0 w w' := by
  cases h
  refine (Tryz.strings_IndexByte a0 a1 w).mono ?_
  rintro e w' ⟨rfl, rfl⟩
  exact ⟨rfl, Drawn0.refl _⟩
theorem lex_cutLeft.calls (a0 a1 r : ByteArray) (w : World) (h : lex_cutLeft.f a0 a1 = some r) :
    Calls Tryz.prog 203 #[.string a0, .string a1] w fun e w' => e = .returned (.string r) ∧ Below w.heap.size w w' := by
  unfold lex_cutLeft.f at h
  split at h
  · rename_i hc
    split at h
    · rename_i hs
      cases h
      exact cut_walk a0 a1 hs (asciiSet_of hc) w
    · cases h
  · cases h
theorem strings_ToLower.calls (a0 r : ByteArray) (w : World) (h : strings_ToLower.f a0 = some r) :
    Calls Tryz.prog 122 #[.string a0] w fun e w' => e = .returned (.string r) ∧ Below w.heap.size w w' := by
  unfold strings_ToLower.f at h
  split at h
  · rename_i hc
    split at h
    · rename_i hs
      cases h
      refine (Tryz.strings_ToLower_ascii a0 w hs (fun j b hb => ?_)).mono ?_
      · have := List.all_eq_true.1 hc b (List.mem_of_getElem? hb)
        simpa using this
      · rintro e w' ⟨rfl, hb⟩
        refine ⟨?_, hb⟩
        have e1 : Lib.toLowerA a0.data.toList = a0.data.toList.map Lx.lowerB := by
          unfold Lib.toLowerA
          refine List.map_congr_left (fun b _ => ?_)
          simp [Lib.lowerB, Lib.isUpperB, Lx.lowerB]
        rw [e1]
        rfl
    · cases h
  · cases h
theorem dupQ_split (l : List UInt8) : dupQ l = if l.contains 39 then l.takeWhile (· != 39) ++ 39 :: 39 :: dupQ ((l.dropWhile (· != 39)).drop 1) else l := by
  induction l with
  | nil => rfl
  | cons c r ih =>
    by_cases hc : c = 39
    · subst hc
      simp [dupQ]
    · have h1 : (c == 39) = false := by simpa using hc
      have h2 : (c != 39) = true := by simpa using hc
      have h3 : ((39 : UInt8) == c) = false := by simpa using Ne.symm hc
      rw [dupQ, h1, List.contains_cons, h3, Bool.false_or, ih]
      simp only [Bool.false_eq_true, if_false, List.takeWhile, List.dropWhile, h2]
      by_cases h4 : r.contains 39 = true
      · rw [if_pos h4, if_pos h4, List.cons_append]
      · rw [if_neg h4, if_neg h4]
theorem replace_quote : ∀ (n : Nat) (l : List UInt8), l.length ≤ n → Lib.replaceK [39] [39, 39] (Lib.count l [39]) l = dupQ l := by
  intro n
  induction n with
  | zero =>
    intro l hl
    obtain rfl : l = [] := List.eq_nil_of_length_eq_zero (by omega)
    rfl
  | succ n ih =>
    intro l hl
    rcases index_one l 39 with ⟨h1, h2, h3, h4⟩ | ⟨i, h1, h2, h3, h4⟩
    · rw [Lib.count_miss h1, dupQ_split, h4]
      rfl
    · rw [Lib.count_hit (by simp) h1, Nat.add_comm, Lib.replaceK_hit _ _ _ _ _ h1]
      simp only [List.length_cons, List.length_nil, Nat.zero_add]
      rw [ih _ (by simp; omega), dupQ_split l, h4, if_pos rfl, h2, h3]
      simp
theorem replaceAll_quote (l : List UInt8) : Lib.replaceAll l [39] [39, 39] = dupQ l := by
  unfold Lib.replaceAll Lib.replace
  rw [if_neg (by decide)]
  unfold Lib.replaceNum
  rw [if_pos (.inl (by decide))]
  exact replace_quote _ l (Nat.le_refl _)
theorem strings_ReplaceAll.calls (a0 a1 a2 r : ByteArray) (w : World) (h : strings_ReplaceAll.f a0 a1 a2 = some r) (hG : GV w) :
    Calls Tryz.prog 65 #[.string a0, .string a1, .string a2] w fun e w' => e = .returned (.string r) ∧ Below w.heap.size w w' := by
  unfold strings_ReplaceAll.f at h
  split at h
  · rename_i h1
    split at h
    · rename_i h2
      split at h
      · rename_i hs
        cases h
        have e1 : a1 = ⟨#[39]⟩ := ba_ext h1
        have e2 : a2 = ⟨#[39, 39]⟩ := ba_ext h2
        subst e1 e2
        obtain ⟨m, hm⟩ := hG.max
        have hle := Lib.countB_mul_le ⟨#[39]⟩ (by decide) a0.size a0 (Nat.le_refl _)
        have hs1 : (⟨#[39]⟩ : ByteArray).size = 1 := rfl
        have hs2 : (⟨#[39, 39]⟩ : ByteArray).size = 2 := rfl
        refine (Tryz.strings_ReplaceAll a0 ⟨#[39]⟩ ⟨#[39, 39]⟩ m w hs hm (by decide) (by rw [hs1] at hle; rw [hs2]; omega)).mono ?_
        rintro e w' ⟨rfl, hb⟩
        refine ⟨?_, hb⟩
        have e3 := replaceAll_quote a0.data.toList
        have e4 : Lib.replaceAll a0.data.toList (⟨#[39]⟩ : ByteArray).data.toList (⟨#[39, 39]⟩ : ByteArray).data.toList = dupQ a0.data.toList := e3
        rw [e4]
        rfl
      · cases h
    · cases h
  · cases h
end Go.Proofs.YtcgdncpioafbdaaGreatDoor.Q
-- Written by a program of this seat (wip/pr.py, by way of the kit's print) out of the translation; Lean checks it.
namespace Go.Proofs.YtcgdncpioafbdaaGreatDoor.Q
open Go.RowKit Go.Proofs.YtcgdncpioafbdaaGreatDoorW.PrintWords Go.Proofs.YtcgdncpioafbdaaGreatDoorW.PrintLast Go.Proofs.YtcgdncpioafbdaaGreatDoorW.PrintMore
attribute [local go_sem] max2_int min2_int max_two min_two max_three min_three max_four min_four   -- for this text's walks alone
set_option linter.unusedVariables false
set_option linter.unusedSimpArgs false
/-! ### parse_reserved: function 324 -/
set_option maxHeartbeats 8000000 in
set_option maxRecDepth 100000 in
theorem parse_reserved.calls (a0 : ByteArray) (r : Bool) (w : World) (h : parse_reserved.f a0 = some r) :
    Calls Tryz.prog 324 #[.string a0] w fun e w' => e = .returned (.bool r) ∧ Drawn0 w w' := by
  have H : (if a0.toList = ([99, 114, 101, 97, 116, 101] : List UInt8) then (some true) else (if a0.toList = ([116, 97, 98, 108, 101] : List UInt8) then (some true) else (if a0.toList = ([100, 114, 111, 112] : List UInt8) then (some true) else (if a0.toList = ([105, 110, 115, 101, 114, 116] : List UInt8) then (some true) else (if a0.toList = ([105, 110, 116, 111] : List UInt8) then (some true) else (if a0.toList = ([118, 97, 108, 117, 101, 115] : List UInt8) then (some true) else (if a0.toList = ([115, 101, 108, 101, 99, 116] : List UInt8) then (some true) else (if a0.toList = ([102, 114, 111, 109] : List UInt8) then (some true) else (if a0.toList = ([119, 104, 101, 114, 101] : List UInt8) then (some true) else (if a0.toList = ([111, 114, 100, 101, 114] : List UInt8) then (some true) else (if a0.toList = ([98, 121] : List UInt8) then (some true) else (if a0.toList = ([100, 101, 115, 99] : List UInt8) then (some true) else (if a0.toList = ([108, 105, 109, 105, 116] : List UInt8) then (some true) else (if a0.toList = ([117, 112, 100, 97, 116, 101] : List UInt8) then (some true) else (if a0.toList = ([115, 101, 116] : List UInt8) then (some true) else (if a0.toList = ([100, 101, 108, 101, 116, 101] : List UInt8) then (some true) else (if a0.toList = ([97, 110, 100] : List UInt8) then (some true) else (if a0.toList = ([111, 114] : List UInt8) then (some true) else (if a0.toList = ([110, 111, 116] : List UInt8) then (some true) else (if a0.toList = ([105, 115] : List UInt8) then (some true) else (if a0.toList = ([110, 117, 108, 108] : List UInt8) then (some true) else (if a0.toList = ([105, 110, 116] : List UInt8) then (some true) else (if a0.toList = ([116, 101, 120, 116] : List UInt8) then (some true) else (if a0.toList = ([100, 101, 116] : List UInt8) then (some true) else (if a0.toList = ([107, 101, 121] : List UInt8) then (some true) else (if a0.toList = ([99, 111, 117, 110, 116] : List UInt8) then (some true) else (if a0.toList = ([115, 117, 109] : List UInt8) then (some true) else (if a0.toList = ([109, 105, 110] : List UInt8) then (some true) else (if a0.toList = ([109, 97, 120] : List UInt8) then (some true) else (some false)))))))))))))))))))))))))))))) = some r := h
  clear h
  by_cases c2 : a0.toList = ([99, 114, 101, 97, 116, 101] : List UInt8)
  · rw [if_pos c2] at H
    have c2b0 : (a0.toList == ([99, 114, 101, 97, 116, 101] : List UInt8)) = true := beq_iff_eq.mpr c2
    have c2b1 : (a0.toList != ([99, 114, 101, 97, 116, 101] : List UInt8)) = false := bne_eq_false_iff_eq.mpr c2
    clear c2
    obtain rfl := Option.some.inj H
    go_enter Tryz.func324, Tryz.ntmps324
    go_wp2
    go_ret
    exact ⟨by first | rfl | (simp; done) | (simp [*]; done), by repeat (first | exact Drawn0.refl _ | apply Drawn0.step)⟩
  · rw [if_neg c2] at H
    have c2b0 : (a0.toList == ([99, 114, 101, 97, 116, 101] : List UInt8)) = false := beq_eq_false_iff_ne.mpr c2
    have c2b1 : (a0.toList != ([99, 114, 101, 97, 116, 101] : List UInt8)) = true := bne_iff_ne.mpr c2
    by_cases c3 : a0.toList = ([116, 97, 98, 108, 101] : List UInt8)
    · rw [if_pos c3] at H
      have c3b0 : (a0.toList == ([116, 97, 98, 108, 101] : List UInt8)) = true := beq_iff_eq.mpr c3
      have c3b1 : (a0.toList != ([116, 97, 98, 108, 101] : List UInt8)) = false := bne_eq_false_iff_eq.mpr c3
      clear c3
      obtain rfl := Option.some.inj H
      go_enter Tryz.func324, Tryz.ntmps324
      go_wp2
      go_ret
      exact ⟨by first | rfl | (simp; done) | (simp [*]; done), by repeat (first | exact Drawn0.refl _ | apply Drawn0.step)⟩
    · rw [if_neg c3] at H
      have c3b0 : (a0.toList == ([116, 97, 98, 108, 101] : List UInt8)) = false := beq_eq_false_iff_ne.mpr c3
      have c3b1 : (a0.toList != ([116, 97, 98, 108, 101] : List UInt8)) = true := bne_iff_ne.mpr c3
      by_cases c4 : a0.toList = ([100, 114, 111, 112] : List UInt8)
      · rw [if_pos c4] at H
        have c4b0 : (a0.toList == ([100, 114, 111, 112] : List UInt8)) = true := beq_iff_eq.mpr c4
        have c4b1 : (a0.toList != ([100, 114, 111, 112] : List UInt8)) = false := bne_eq_false_iff_eq.mpr c4
        clear c4
        obtain rfl := Option.some.inj H
        go_enter Tryz.func324, Tryz.ntmps324
        go_wp2
        go_ret
        exact ⟨by first | rfl | (simp; done) | (simp [*]; done), by repeat (first | exact Drawn0.refl _ | apply Drawn0.step)⟩
      · rw [if_neg c4] at H
        have c4b0 : (a0.toList == ([100, 114, 111, 112] : List UInt8)) = false := beq_eq_false_iff_ne.mpr c4
        have c4b1 : (a0.toList != ([100, 114, 111, 112] : List UInt8)) = true := bne_iff_ne.mpr c4
        by_cases c5 : a0.toList = ([105, 110, 115, 101, 114, 116] : List UInt8)
        · rw [if_pos c5] at H
          have c5b0 : (a0.toList == ([105, 110, 115, 101, 114, 116] : List UInt8)) = true := beq_iff_eq.mpr c5
          have c5b1 : (a0.toList != ([105, 110, 115, 101, 114, 116] : List UInt8)) = false := bne_eq_false_iff_eq.mpr c5
          clear c5
          obtain rfl := Option.some.inj H
          go_enter Tryz.func324, Tryz.ntmps324
          go_wp2
          go_ret
          exact ⟨by first | rfl | (simp; done) | (simp [*]; done), by repeat (first | exact Drawn0.refl _ | apply Drawn0.step)⟩
        · rw [if_neg c5] at H
          have c5b0 : (a0.toList == ([105, 110, 115, 101, 114, 116] : List UInt8)) = false := beq_eq_false_iff_ne.mpr c5
          have c5b1 : (a0.toList != ([105, 110, 115, 101, 114, 116] : List UInt8)) = true := bne_iff_ne.mpr c5
          by_cases c6 : a0.toList = ([105, 110, 116, 111] : List UInt8)
          · rw [if_pos c6] at H
            have c6b0 : (a0.toList == ([105, 110, 116, 111] : List UInt8)) = true := beq_iff_eq.mpr c6
            have c6b1 : (a0.toList != ([105, 110, 116, 111] : List UInt8)) = false := bne_eq_false_iff_eq.mpr c6
            clear c6
            obtain rfl := Option.some.inj H
            go_enter Tryz.func324, Tryz.ntmps324
            go_wp2
            go_ret
            exact ⟨by first | rfl | (simp; done) | (simp [*]; done), by repeat (first | exact Drawn0.refl _ | apply Drawn0.step)⟩
          · rw [if_neg c6] at H
            have c6b0 : (a0.toList == ([105, 110, 116, 111] : List UInt8)) = false := beq_eq_false_iff_ne.mpr c6
            have c6b1 : (a0.toList != ([105, 110, 116, 111] : List UInt8)) = true := bne_iff_ne.mpr c6
            by_cases c7 : a0.toList = ([118, 97, 108, 117, 101, 115] : List UInt8)
            · rw [if_pos c7] at H
              have c7b0 : (a0.toList == ([118, 97, 108, 117, 101, 115] : List UInt8)) = true := beq_iff_eq.mpr c7
              have c7b1 : (a0.toList != ([118, 97, 108, 117, 101, 115] : List UInt8)) = false := bne_eq_false_iff_eq.mpr c7
              clear c7
              obtain rfl := Option.some.inj H
              go_enter Tryz.func324, Tryz.ntmps324
              go_wp2
              go_ret
              exact ⟨by first | rfl | (simp; done) | (simp [*]; done), by repeat (first | exact Drawn0.refl _ | apply Drawn0.step)⟩
            · rw [if_neg c7] at H
              have c7b0 : (a0.toList == ([118, 97, 108, 117, 101, 115] : List UInt8)) = false := beq_eq_false_iff_ne.mpr c7
              have c7b1 : (a0.toList != ([118, 97, 108, 117, 101, 115] : List UInt8)) = true := bne_iff_ne.mpr c7
              by_cases c8 : a0.toList = ([115, 101, 108, 101, 99, 116] : List UInt8)
              · rw [if_pos c8] at H
                have c8b0 : (a0.toList == ([115, 101, 108, 101, 99, 116] : List UInt8)) = true := beq_iff_eq.mpr c8
                have c8b1 : (a0.toList != ([115, 101, 108, 101, 99, 116] : List UInt8)) = false := bne_eq_false_iff_eq.mpr c8
                clear c8
                obtain rfl := Option.some.inj H
                go_enter Tryz.func324, Tryz.ntmps324
                go_wp2
                go_ret
                exact ⟨by first | rfl | (simp; done) | (simp [*]; done), by repeat (first | exact Drawn0.refl _ | apply Drawn0.step)⟩
              · rw [if_neg c8] at H
                have c8b0 : (a0.toList == ([115, 101, 108, 101, 99, 116] : List UInt8)) = false := beq_eq_false_iff_ne.mpr c8
                have c8b1 : (a0.toList != ([115, 101, 108, 101, 99, 116] : List UInt8)) = true := bne_iff_ne.mpr c8
                by_cases c9 : a0.toList = ([102, 114, 111, 109] : List UInt8)
                · rw [if_pos c9] at H
                  have c9b0 : (a0.toList == ([102, 114, 111, 109] : List UInt8)) = true := beq_iff_eq.mpr c9
                  have c9b1 : (a0.toList != ([102, 114, 111, 109] : List UInt8)) = false := bne_eq_false_iff_eq.mpr c9
                  clear c9
                  obtain rfl := Option.some.inj H
                  go_enter Tryz.func324, Tryz.ntmps324
                  go_wp2
                  go_ret
                  exact ⟨by first | rfl | (simp; done) | (simp [*]; done), by repeat (first | exact Drawn0.refl _ | apply Drawn0.step)⟩
                · rw [if_neg c9] at H
                  have c9b0 : (a0.toList == ([102, 114, 111, 109] : List UInt8)) = false := beq_eq_false_iff_ne.mpr c9
                  have c9b1 : (a0.toList != ([102, 114, 111, 109] : List UInt8)) = true := bne_iff_ne.mpr c9
                  by_cases c10 : a0.toList = ([119, 104, 101, 114, 101] : List UInt8)
                  · rw [if_pos c10] at H
                    have c10b0 : (a0.toList == ([119, 104, 101, 114, 101] : List UInt8)) = true := beq_iff_eq.mpr c10
                    have c10b1 : (a0.toList != ([119, 104, 101, 114, 101] : List UInt8)) = false := bne_eq_false_iff_eq.mpr c10
                    clear c10
                    obtain rfl := Option.some.inj H
                    go_enter Tryz.func324, Tryz.ntmps324
                    go_wp2
                    go_ret
                    exact ⟨by first | rfl | (simp; done) | (simp [*]; done), by repeat (first | exact Drawn0.refl _ | apply Drawn0.step)⟩
                  · rw [if_neg c10] at H
                    have c10b0 : (a0.toList == ([119, 104, 101, 114, 101] : List UInt8)) = false := beq_eq_false_iff_ne.mpr c10
                    have c10b1 : (a0.toList != ([119, 104, 101, 114, 101] : List UInt8)) = true := bne_iff_ne.mpr c10
                    by_cases c11 : a0.toList = ([111, 114, 100, 101, 114] : List UInt8)
                    · rw [if_pos c11] at H
                      have c11b0 : (a0.toList == ([111, 114, 100, 101, 114] : List UInt8)) = true := beq_iff_eq.mpr c11
                      have c11b1 : (a0.toList != ([111, 114, 100, 101, 114] : List UInt8)) = false := bne_eq_false_iff_eq.mpr c11
                      clear c11
                      obtain rfl := Option.some.inj H
                      go_enter Tryz.func324, Tryz.ntmps324
                      go_wp2
                      go_ret
                      exact ⟨by first | rfl | (simp; done) | (simp [*]; done), by repeat (first | exact Drawn0.refl _ | apply Drawn0.step)⟩
                    · rw [if_neg c11] at H
                      have c11b0 : (a0.toList == ([111, 114, 100, 101, 114] : List UInt8)) = false := beq_eq_false_iff_ne.mpr c11
                      have c11b1 : (a0.toList != ([111, 114, 100, 101, 114] : List UInt8)) = true := bne_iff_ne.mpr c11
                      by_cases c12 : a0.toList = ([98, 121] : List UInt8)
                      · rw [if_pos c12] at H
                        have c12b0 : (a0.toList == ([98, 121] : List UInt8)) = true := beq_iff_eq.mpr c12
                        have c12b1 : (a0.toList != ([98, 121] : List UInt8)) = false := bne_eq_false_iff_eq.mpr c12
                        clear c12
                        obtain rfl := Option.some.inj H
                        go_enter Tryz.func324, Tryz.ntmps324
                        go_wp2
                        go_ret
                        exact ⟨by first | rfl | (simp; done) | (simp [*]; done), by repeat (first | exact Drawn0.refl _ | apply Drawn0.step)⟩
                      · rw [if_neg c12] at H
                        have c12b0 : (a0.toList == ([98, 121] : List UInt8)) = false := beq_eq_false_iff_ne.mpr c12
                        have c12b1 : (a0.toList != ([98, 121] : List UInt8)) = true := bne_iff_ne.mpr c12
                        by_cases c13 : a0.toList = ([100, 101, 115, 99] : List UInt8)
                        · rw [if_pos c13] at H
                          have c13b0 : (a0.toList == ([100, 101, 115, 99] : List UInt8)) = true := beq_iff_eq.mpr c13
                          have c13b1 : (a0.toList != ([100, 101, 115, 99] : List UInt8)) = false := bne_eq_false_iff_eq.mpr c13
                          clear c13
                          obtain rfl := Option.some.inj H
                          go_enter Tryz.func324, Tryz.ntmps324
                          go_wp2
                          go_ret
                          exact ⟨by first | rfl | (simp; done) | (simp [*]; done), by repeat (first | exact Drawn0.refl _ | apply Drawn0.step)⟩
                        · rw [if_neg c13] at H
                          have c13b0 : (a0.toList == ([100, 101, 115, 99] : List UInt8)) = false := beq_eq_false_iff_ne.mpr c13
                          have c13b1 : (a0.toList != ([100, 101, 115, 99] : List UInt8)) = true := bne_iff_ne.mpr c13
                          by_cases c14 : a0.toList = ([108, 105, 109, 105, 116] : List UInt8)
                          · rw [if_pos c14] at H
                            have c14b0 : (a0.toList == ([108, 105, 109, 105, 116] : List UInt8)) = true := beq_iff_eq.mpr c14
                            have c14b1 : (a0.toList != ([108, 105, 109, 105, 116] : List UInt8)) = false := bne_eq_false_iff_eq.mpr c14
                            clear c14
                            obtain rfl := Option.some.inj H
                            go_enter Tryz.func324, Tryz.ntmps324
                            go_wp2
                            go_ret
                            exact ⟨by first | rfl | (simp; done) | (simp [*]; done), by repeat (first | exact Drawn0.refl _ | apply Drawn0.step)⟩
                          · rw [if_neg c14] at H
                            have c14b0 : (a0.toList == ([108, 105, 109, 105, 116] : List UInt8)) = false := beq_eq_false_iff_ne.mpr c14
                            have c14b1 : (a0.toList != ([108, 105, 109, 105, 116] : List UInt8)) = true := bne_iff_ne.mpr c14
                            by_cases c15 : a0.toList = ([117, 112, 100, 97, 116, 101] : List UInt8)
                            · rw [if_pos c15] at H
                              have c15b0 : (a0.toList == ([117, 112, 100, 97, 116, 101] : List UInt8)) = true := beq_iff_eq.mpr c15
                              have c15b1 : (a0.toList != ([117, 112, 100, 97, 116, 101] : List UInt8)) = false := bne_eq_false_iff_eq.mpr c15
                              clear c15
                              obtain rfl := Option.some.inj H
                              go_enter Tryz.func324, Tryz.ntmps324
                              go_wp2
                              go_ret
                              exact ⟨by first | rfl | (simp; done) | (simp [*]; done), by repeat (first | exact Drawn0.refl _ | apply Drawn0.step)⟩
                            · rw [if_neg c15] at H
                              have c15b0 : (a0.toList == ([117, 112, 100, 97, 116, 101] : List UInt8)) = false := beq_eq_false_iff_ne.mpr c15
                              have c15b1 : (a0.toList != ([117, 112, 100, 97, 116, 101] : List UInt8)) = true := bne_iff_ne.mpr c15
                              by_cases c16 : a0.toList = ([115, 101, 116] : List UInt8)
                              · rw [if_pos c16] at H
                                have c16b0 : (a0.toList == ([115, 101, 116] : List UInt8)) = true := beq_iff_eq.mpr c16
                                have c16b1 : (a0.toList != ([115, 101, 116] : List UInt8)) = false := bne_eq_false_iff_eq.mpr c16
                                clear c16
                                obtain rfl := Option.some.inj H
                                go_enter Tryz.func324, Tryz.ntmps324
                                go_wp2
                                go_ret
                                exact ⟨by first | rfl | (simp; done) | (simp [*]; done), by repeat (first | exact Drawn0.refl _ | apply Drawn0.step)⟩
                              · rw [if_neg c16] at H
                                have c16b0 : (a0.toList == ([115, 101, 116] : List UInt8)) = false := beq_eq_false_iff_ne.mpr c16
                                have c16b1 : (a0.toList != ([115, 101, 116] : List UInt8)) = true := bne_iff_ne.mpr c16
                                by_cases c17 : a0.toList = ([100, 101, 108, 101, 116, 101] : List UInt8)
                                · rw [if_pos c17] at H
                                  have c17b0 : (a0.toList == ([100, 101, 108, 101, 116, 101] : List UInt8)) = true := beq_iff_eq.mpr c17
                                  have c17b1 : (a0.toList != ([100, 101, 108, 101, 116, 101] : List UInt8)) = false := bne_eq_false_iff_eq.mpr c17
                                  clear c17
                                  obtain rfl := Option.some.inj H
                                  go_enter Tryz.func324, Tryz.ntmps324
                                  go_wp2
                                  go_ret
                                  exact ⟨by first | rfl | (simp; done) | (simp [*]; done), by repeat (first | exact Drawn0.refl _ | apply Drawn0.step)⟩
                                · rw [if_neg c17] at H
                                  have c17b0 : (a0.toList == ([100, 101, 108, 101, 116, 101] : List UInt8)) = false := beq_eq_false_iff_ne.mpr c17
                                  have c17b1 : (a0.toList != ([100, 101, 108, 101, 116, 101] : List UInt8)) = true := bne_iff_ne.mpr c17
                                  by_cases c18 : a0.toList = ([97, 110, 100] : List UInt8)
                                  · rw [if_pos c18] at H
                                    have c18b0 : (a0.toList == ([97, 110, 100] : List UInt8)) = true := beq_iff_eq.mpr c18
                                    have c18b1 : (a0.toList != ([97, 110, 100] : List UInt8)) = false := bne_eq_false_iff_eq.mpr c18
                                    clear c18
                                    obtain rfl := Option.some.inj H
                                    go_enter Tryz.func324, Tryz.ntmps324
                                    go_wp2
                                    go_ret
                                    exact ⟨by first | rfl | (simp; done) | (simp [*]; done), by repeat (first | exact Drawn0.refl _ | apply Drawn0.step)⟩
                                  · rw [if_neg c18] at H
                                    have c18b0 : (a0.toList == ([97, 110, 100] : List UInt8)) = false := beq_eq_false_iff_ne.mpr c18
                                    have c18b1 : (a0.toList != ([97, 110, 100] : List UInt8)) = true := bne_iff_ne.mpr c18
                                    by_cases c19 : a0.toList = ([111, 114] : List UInt8)
                                    · rw [if_pos c19] at H
                                      have c19b0 : (a0.toList == ([111, 114] : List UInt8)) = true := beq_iff_eq.mpr c19
                                      have c19b1 : (a0.toList != ([111, 114] : List UInt8)) = false := bne_eq_false_iff_eq.mpr c19
                                      clear c19
                                      obtain rfl := Option.some.inj H
                                      go_enter Tryz.func324, Tryz.ntmps324
                                      go_wp2
                                      go_ret
                                      exact ⟨by first | rfl | (simp; done) | (simp [*]; done), by repeat (first | exact Drawn0.refl _ | apply Drawn0.step)⟩
                                    · rw [if_neg c19] at H
                                      have c19b0 : (a0.toList == ([111, 114] : List UInt8)) = false := beq_eq_false_iff_ne.mpr c19
                                      have c19b1 : (a0.toList != ([111, 114] : List UInt8)) = true := bne_iff_ne.mpr c19
                                      by_cases c20 : a0.toList = ([110, 111, 116] : List UInt8)
                                      · rw [if_pos c20] at H
                                        have c20b0 : (a0.toList == ([110, 111, 116] : List UInt8)) = true := beq_iff_eq.mpr c20
                                        have c20b1 : (a0.toList != ([110, 111, 116] : List UInt8)) = false := bne_eq_false_iff_eq.mpr c20
                                        clear c20
                                        obtain rfl := Option.some.inj H
                                        go_enter Tryz.func324, Tryz.ntmps324
                                        go_wp2
                                        go_ret
                                        exact ⟨by first | rfl | (simp; done) | (simp [*]; done), by repeat (first | exact Drawn0.refl _ | apply Drawn0.step)⟩
                                      · rw [if_neg c20] at H
                                        have c20b0 : (a0.toList == ([110, 111, 116] : List UInt8)) = false := beq_eq_false_iff_ne.mpr c20
                                        have c20b1 : (a0.toList != ([110, 111, 116] : List UInt8)) = true := bne_iff_ne.mpr c20
                                        by_cases c21 : a0.toList = ([105, 115] : List UInt8)
                                        · rw [if_pos c21] at H
                                          have c21b0 : (a0.toList == ([105, 115] : List UInt8)) = true := beq_iff_eq.mpr c21
                                          have c21b1 : (a0.toList != ([105, 115] : List UInt8)) = false := bne_eq_false_iff_eq.mpr c21
                                          clear c21
                                          obtain rfl := Option.some.inj H
                                          go_enter Tryz.func324, Tryz.ntmps324
                                          go_wp2
                                          go_ret
                                          exact ⟨by first | rfl | (simp; done) | (simp [*]; done), by repeat (first | exact Drawn0.refl _ | apply Drawn0.step)⟩
                                        · rw [if_neg c21] at H
                                          have c21b0 : (a0.toList == ([105, 115] : List UInt8)) = false := beq_eq_false_iff_ne.mpr c21
                                          have c21b1 : (a0.toList != ([105, 115] : List UInt8)) = true := bne_iff_ne.mpr c21
                                          by_cases c22 : a0.toList = ([110, 117, 108, 108] : List UInt8)
                                          · rw [if_pos c22] at H
                                            have c22b0 : (a0.toList == ([110, 117, 108, 108] : List UInt8)) = true := beq_iff_eq.mpr c22
                                            have c22b1 : (a0.toList != ([110, 117, 108, 108] : List UInt8)) = false := bne_eq_false_iff_eq.mpr c22
                                            clear c22
                                            obtain rfl := Option.some.inj H
                                            go_enter Tryz.func324, Tryz.ntmps324
                                            go_wp2
                                            go_ret
                                            exact ⟨by first | rfl | (simp; done) | (simp [*]; done), by repeat (first | exact Drawn0.refl _ | apply Drawn0.step)⟩
                                          · rw [if_neg c22] at H
                                            have c22b0 : (a0.toList == ([110, 117, 108, 108] : List UInt8)) = false := beq_eq_false_iff_ne.mpr c22
                                            have c22b1 : (a0.toList != ([110, 117, 108, 108] : List UInt8)) = true := bne_iff_ne.mpr c22
                                            by_cases c23 : a0.toList = ([105, 110, 116] : List UInt8)
                                            · rw [if_pos c23] at H
                                              have c23b0 : (a0.toList == ([105, 110, 116] : List UInt8)) = true := beq_iff_eq.mpr c23
                                              have c23b1 : (a0.toList != ([105, 110, 116] : List UInt8)) = false := bne_eq_false_iff_eq.mpr c23
                                              clear c23
                                              obtain rfl := Option.some.inj H
                                              go_enter Tryz.func324, Tryz.ntmps324
                                              go_wp2
                                              go_ret
                                              exact ⟨by first | rfl | (simp; done) | (simp [*]; done), by repeat (first | exact Drawn0.refl _ | apply Drawn0.step)⟩
                                            · rw [if_neg c23] at H
                                              have c23b0 : (a0.toList == ([105, 110, 116] : List UInt8)) = false := beq_eq_false_iff_ne.mpr c23
                                              have c23b1 : (a0.toList != ([105, 110, 116] : List UInt8)) = true := bne_iff_ne.mpr c23
                                              by_cases c24 : a0.toList = ([116, 101, 120, 116] : List UInt8)
                                              · rw [if_pos c24] at H
                                                have c24b0 : (a0.toList == ([116, 101, 120, 116] : List UInt8)) = true := beq_iff_eq.mpr c24
                                                have c24b1 : (a0.toList != ([116, 101, 120, 116] : List UInt8)) = false := bne_eq_false_iff_eq.mpr c24
                                                clear c24
                                                obtain rfl := Option.some.inj H
                                                go_enter Tryz.func324, Tryz.ntmps324
                                                go_wp2
                                                go_ret
                                                exact ⟨by first | rfl | (simp; done) | (simp [*]; done), by repeat (first | exact Drawn0.refl _ | apply Drawn0.step)⟩
                                              · rw [if_neg c24] at H
                                                have c24b0 : (a0.toList == ([116, 101, 120, 116] : List UInt8)) = false := beq_eq_false_iff_ne.mpr c24
                                                have c24b1 : (a0.toList != ([116, 101, 120, 116] : List UInt8)) = true := bne_iff_ne.mpr c24
                                                by_cases c25 : a0.toList = ([100, 101, 116] : List UInt8)
                                                · rw [if_pos c25] at H
                                                  have c25b0 : (a0.toList == ([100, 101, 116] : List UInt8)) = true := beq_iff_eq.mpr c25
                                                  have c25b1 : (a0.toList != ([100, 101, 116] : List UInt8)) = false := bne_eq_false_iff_eq.mpr c25
                                                  clear c25
                                                  obtain rfl := Option.some.inj H
                                                  go_enter Tryz.func324, Tryz.ntmps324
                                                  go_wp2
                                                  go_ret
                                                  exact ⟨by first | rfl | (simp; done) | (simp [*]; done), by repeat (first | exact Drawn0.refl _ | apply Drawn0.step)⟩
                                                · rw [if_neg c25] at H
                                                  have c25b0 : (a0.toList == ([100, 101, 116] : List UInt8)) = false := beq_eq_false_iff_ne.mpr c25
                                                  have c25b1 : (a0.toList != ([100, 101, 116] : List UInt8)) = true := bne_iff_ne.mpr c25
                                                  by_cases c26 : a0.toList = ([107, 101, 121] : List UInt8)
                                                  · rw [if_pos c26] at H
                                                    have c26b0 : (a0.toList == ([107, 101, 121] : List UInt8)) = true := beq_iff_eq.mpr c26
                                                    have c26b1 : (a0.toList != ([107, 101, 121] : List UInt8)) = false := bne_eq_false_iff_eq.mpr c26
                                                    clear c26
                                                    obtain rfl := Option.some.inj H
                                                    go_enter Tryz.func324, Tryz.ntmps324
                                                    go_wp2
                                                    go_ret
                                                    exact ⟨by first | rfl | (simp; done) | (simp [*]; done), by repeat (first | exact Drawn0.refl _ | apply Drawn0.step)⟩
                                                  · rw [if_neg c26] at H
                                                    have c26b0 : (a0.toList == ([107, 101, 121] : List UInt8)) = false := beq_eq_false_iff_ne.mpr c26
                                                    have c26b1 : (a0.toList != ([107, 101, 121] : List UInt8)) = true := bne_iff_ne.mpr c26
                                                    by_cases c27 : a0.toList = ([99, 111, 117, 110, 116] : List UInt8)
                                                    · rw [if_pos c27] at H
                                                      have c27b0 : (a0.toList == ([99, 111, 117, 110, 116] : List UInt8)) = true := beq_iff_eq.mpr c27
                                                      have c27b1 : (a0.toList != ([99, 111, 117, 110, 116] : List UInt8)) = false := bne_eq_false_iff_eq.mpr c27
                                                      clear c27
                                                      obtain rfl := Option.some.inj H
                                                      go_enter Tryz.func324, Tryz.ntmps324
                                                      go_wp2
                                                      go_ret
                                                      exact ⟨by first | rfl | (simp; done) | (simp [*]; done), by repeat (first | exact Drawn0.refl _ | apply Drawn0.step)⟩
                                                    · rw [if_neg c27] at H
                                                      have c27b0 : (a0.toList == ([99, 111, 117, 110, 116] : List UInt8)) = false := beq_eq_false_iff_ne.mpr c27
                                                      have c27b1 : (a0.toList != ([99, 111, 117, 110, 116] : List UInt8)) = true := bne_iff_ne.mpr c27
                                                      by_cases c28 : a0.toList = ([115, 117, 109] : List UInt8)
                                                      · rw [if_pos c28] at H
                                                        have c28b0 : (a0.toList == ([115, 117, 109] : List UInt8)) = true := beq_iff_eq.mpr c28
                                                        have c28b1 : (a0.toList != ([115, 117, 109] : List UInt8)) = false := bne_eq_false_iff_eq.mpr c28
                                                        clear c28
                                                        obtain rfl := Option.some.inj H
                                                        go_enter Tryz.func324, Tryz.ntmps324
                                                        go_wp2
                                                        go_ret
                                                        exact ⟨by first | rfl | (simp; done) | (simp [*]; done), by repeat (first | exact Drawn0.refl _ | apply Drawn0.step)⟩
                                                      · rw [if_neg c28] at H
                                                        have c28b0 : (a0.toList == ([115, 117, 109] : List UInt8)) = false := beq_eq_false_iff_ne.mpr c28
                                                        have c28b1 : (a0.toList != ([115, 117, 109] : List UInt8)) = true := bne_iff_ne.mpr c28
                                                        by_cases c29 : a0.toList = ([109, 105, 110] : List UInt8)
                                                        · rw [if_pos c29] at H
                                                          have c29b0 : (a0.toList == ([109, 105, 110] : List UInt8)) = true := beq_iff_eq.mpr c29
                                                          have c29b1 : (a0.toList != ([109, 105, 110] : List UInt8)) = false := bne_eq_false_iff_eq.mpr c29
                                                          clear c29
                                                          obtain rfl := Option.some.inj H
                                                          go_enter Tryz.func324, Tryz.ntmps324
                                                          go_wp2
                                                          go_ret
                                                          exact ⟨by first | rfl | (simp; done) | (simp [*]; done), by repeat (first | exact Drawn0.refl _ | apply Drawn0.step)⟩
                                                        · rw [if_neg c29] at H
                                                          have c29b0 : (a0.toList == ([109, 105, 110] : List UInt8)) = false := beq_eq_false_iff_ne.mpr c29
                                                          have c29b1 : (a0.toList != ([109, 105, 110] : List UInt8)) = true := bne_iff_ne.mpr c29
                                                          by_cases c30 : a0.toList = ([109, 97, 120] : List UInt8)
                                                          · rw [if_pos c30] at H
                                                            have c30b0 : (a0.toList == ([109, 97, 120] : List UInt8)) = true := beq_iff_eq.mpr c30
                                                            have c30b1 : (a0.toList != ([109, 97, 120] : List UInt8)) = false := bne_eq_false_iff_eq.mpr c30
                                                            clear c30
                                                            obtain rfl := Option.some.inj H
                                                            go_enter Tryz.func324, Tryz.ntmps324
                                                            go_wp2
                                                            go_ret
                                                            exact ⟨by first | rfl | (simp; done) | (simp [*]; done), by repeat (first | exact Drawn0.refl _ | apply Drawn0.step)⟩
                                                          · rw [if_neg c30] at H
                                                            have c30b0 : (a0.toList == ([109, 97, 120] : List UInt8)) = false := beq_eq_false_iff_ne.mpr c30
                                                            have c30b1 : (a0.toList != ([109, 97, 120] : List UInt8)) = true := bne_iff_ne.mpr c30
                                                            obtain rfl := Option.some.inj H
                                                            go_enter Tryz.func324, Tryz.ntmps324
                                                            go_wp2
                                                            go_ret
                                                            exact ⟨by first | rfl | (simp; done) | (simp [*]; done), by repeat (first | exact Drawn0.refl _ | apply Drawn0.step)⟩
/-! ### parse_binds: function 102 -/
set_option maxHeartbeats 8000000 in
set_option maxRecDepth 100000 in
theorem parse_binds.calls (k : Nat) (a0 : ByteArray) (r : Int) (w : World) (h : parse_binds.f k a0 = some r) :
    Calls Tryz.prog 102 #[.string a0] w fun e w' => e = .returned (.int .i64 r) ∧ Drawn0 w w' := by
  have H : (if a0.toList = ([111, 114] : List UInt8) then (some 1) else (if a0.toList = ([97, 110, 100] : List UInt8) then (some 2) else (if a0.toList = ([61] : List UInt8) then (parse_binds.j0 k a0 (a0.toList == ([61] : List UInt8))) else (if a0.toList = ([60, 62] : List UInt8) then (parse_binds.j0 k a0 (a0.toList == ([60, 62] : List UInt8))) else (if a0.toList = ([60] : List UInt8) then (parse_binds.j0 k a0 (a0.toList == ([60] : List UInt8))) else (if a0.toList = ([60, 61] : List UInt8) then (parse_binds.j0 k a0 (a0.toList == ([60, 61] : List UInt8))) else (if a0.toList = ([62] : List UInt8) then (parse_binds.j0 k a0 (a0.toList == ([62] : List UInt8))) else (if a0.toList = ([62, 61] : List UInt8) then (parse_binds.j0 k a0 (a0.toList == ([62, 61] : List UInt8))) else (parse_binds.j0 k a0 (a0.toList == ([105, 115] : List UInt8))))))))))) = some r := h
  clear h
  by_cases c2 : a0.toList = ([111, 114] : List UInt8)
  · rw [if_pos c2] at H
    have c2b0 : (a0.toList == ([111, 114] : List UInt8)) = true := beq_iff_eq.mpr c2
    have c2b1 : (a0.toList != ([111, 114] : List UInt8)) = false := bne_eq_false_iff_eq.mpr c2
    clear c2
    obtain rfl := Option.some.inj H
    go_enter Tryz.func102, Tryz.ntmps102
    go_wp2
    go_ret
    exact ⟨by first | rfl | (simp; done) | (simp [*]; done), by repeat (first | exact Drawn0.refl _ | apply Drawn0.step)⟩
  · rw [if_neg c2] at H
    have c2b0 : (a0.toList == ([111, 114] : List UInt8)) = false := beq_eq_false_iff_ne.mpr c2
    have c2b1 : (a0.toList != ([111, 114] : List UInt8)) = true := bne_iff_ne.mpr c2
    by_cases c3 : a0.toList = ([97, 110, 100] : List UInt8)
    · rw [if_pos c3] at H
      have c3b0 : (a0.toList == ([97, 110, 100] : List UInt8)) = true := beq_iff_eq.mpr c3
      have c3b1 : (a0.toList != ([97, 110, 100] : List UInt8)) = false := bne_eq_false_iff_eq.mpr c3
      clear c3
      obtain rfl := Option.some.inj H
      go_enter Tryz.func102, Tryz.ntmps102
      go_wp2
      go_ret
      exact ⟨by first | rfl | (simp; done) | (simp [*]; done), by repeat (first | exact Drawn0.refl _ | apply Drawn0.step)⟩
    · rw [if_neg c3] at H
      have c3b0 : (a0.toList == ([97, 110, 100] : List UInt8)) = false := beq_eq_false_iff_ne.mpr c3
      have c3b1 : (a0.toList != ([97, 110, 100] : List UInt8)) = true := bne_iff_ne.mpr c3
      have HC4 := Aside0.mk H
      clear H
      go_enter Tryz.func102, Tryz.ntmps102
      go_upto_if 8 with (fail)
      go_cut [8] (fun v8 wc => ∃ (kq : Nat) (x8_3 : Bool), v8 = .bool x8_3 ∧ Aside0 (parse_binds.j0 kq a0 x8_3 = some r) ∧ Aside0 (kq ≤ k) ∧ Drawn0 w wc)
      case first =>
        have H := HC4.out
        clear HC4
        by_cases c5 : a0.toList = ([61] : List UInt8)
        · rw [if_pos c5] at H
          have c5b0 : (a0.toList == ([61] : List UInt8)) = true := beq_iff_eq.mpr c5
          have c5b1 : (a0.toList != ([61] : List UInt8)) = false := bne_eq_false_iff_eq.mpr c5
          clear c5
          (first | rw [c5b0] | (simp only [i64_w, i32_w]; rw [c5b0]) | skip)
          have H' := Aside0.mk H
          clear H
          go_wp2
          go_meet
          case rel => exact ⟨_, ((a0.toList == ([61] : List UInt8))), (by first | rfl | (simp; done) | (simp [*]; done)), H', ⟨by first | omega | exact Nat.le_refl _⟩, by repeat (first | exact Drawn0.refl _ | apply Drawn0.step)⟩
        · rw [if_neg c5] at H
          have c5b0 : (a0.toList == ([61] : List UInt8)) = false := beq_eq_false_iff_ne.mpr c5
          have c5b1 : (a0.toList != ([61] : List UInt8)) = true := bne_iff_ne.mpr c5
          (first | rw [c5b0] | (simp only [i64_w, i32_w]; rw [c5b0]) | skip)
          by_cases c6 : a0.toList = ([60, 62] : List UInt8)
          · rw [if_pos c6] at H
            have c6b0 : (a0.toList == ([60, 62] : List UInt8)) = true := beq_iff_eq.mpr c6
            have c6b1 : (a0.toList != ([60, 62] : List UInt8)) = false := bne_eq_false_iff_eq.mpr c6
            clear c6
            have H' := Aside0.mk H
            clear H
            go_wp2
            go_meet
            case rel => exact ⟨_, ((a0.toList == ([60, 62] : List UInt8))), (by first | rfl | (simp; done) | (simp [*]; done)), H', ⟨by first | omega | exact Nat.le_refl _⟩, by repeat (first | exact Drawn0.refl _ | apply Drawn0.step)⟩
          · rw [if_neg c6] at H
            have c6b0 : (a0.toList == ([60, 62] : List UInt8)) = false := beq_eq_false_iff_ne.mpr c6
            have c6b1 : (a0.toList != ([60, 62] : List UInt8)) = true := bne_iff_ne.mpr c6
            by_cases c7 : a0.toList = ([60] : List UInt8)
            · rw [if_pos c7] at H
              have c7b0 : (a0.toList == ([60] : List UInt8)) = true := beq_iff_eq.mpr c7
              have c7b1 : (a0.toList != ([60] : List UInt8)) = false := bne_eq_false_iff_eq.mpr c7
              clear c7
              have H' := Aside0.mk H
              clear H
              go_wp2
              go_meet
              case rel => exact ⟨_, ((a0.toList == ([60] : List UInt8))), (by first | rfl | (simp; done) | (simp [*]; done)), H', ⟨by first | omega | exact Nat.le_refl _⟩, by repeat (first | exact Drawn0.refl _ | apply Drawn0.step)⟩
            · rw [if_neg c7] at H
              have c7b0 : (a0.toList == ([60] : List UInt8)) = false := beq_eq_false_iff_ne.mpr c7
              have c7b1 : (a0.toList != ([60] : List UInt8)) = true := bne_iff_ne.mpr c7
              by_cases c8 : a0.toList = ([60, 61] : List UInt8)
              · rw [if_pos c8] at H
                have c8b0 : (a0.toList == ([60, 61] : List UInt8)) = true := beq_iff_eq.mpr c8
                have c8b1 : (a0.toList != ([60, 61] : List UInt8)) = false := bne_eq_false_iff_eq.mpr c8
                clear c8
                have H' := Aside0.mk H
                clear H
                go_wp2
                go_meet
                case rel => exact ⟨_, ((a0.toList == ([60, 61] : List UInt8))), (by first | rfl | (simp; done) | (simp [*]; done)), H', ⟨by first | omega | exact Nat.le_refl _⟩, by repeat (first | exact Drawn0.refl _ | apply Drawn0.step)⟩
              · rw [if_neg c8] at H
                have c8b0 : (a0.toList == ([60, 61] : List UInt8)) = false := beq_eq_false_iff_ne.mpr c8
                have c8b1 : (a0.toList != ([60, 61] : List UInt8)) = true := bne_iff_ne.mpr c8
                by_cases c9 : a0.toList = ([62] : List UInt8)
                · rw [if_pos c9] at H
                  have c9b0 : (a0.toList == ([62] : List UInt8)) = true := beq_iff_eq.mpr c9
                  have c9b1 : (a0.toList != ([62] : List UInt8)) = false := bne_eq_false_iff_eq.mpr c9
                  clear c9
                  have H' := Aside0.mk H
                  clear H
                  go_wp2
                  go_meet
                  case rel => exact ⟨_, ((a0.toList == ([62] : List UInt8))), (by first | rfl | (simp; done) | (simp [*]; done)), H', ⟨by first | omega | exact Nat.le_refl _⟩, by repeat (first | exact Drawn0.refl _ | apply Drawn0.step)⟩
                · rw [if_neg c9] at H
                  have c9b0 : (a0.toList == ([62] : List UInt8)) = false := beq_eq_false_iff_ne.mpr c9
                  have c9b1 : (a0.toList != ([62] : List UInt8)) = true := bne_iff_ne.mpr c9
                  by_cases c10 : a0.toList = ([62, 61] : List UInt8)
                  · rw [if_pos c10] at H
                    have c10b0 : (a0.toList == ([62, 61] : List UInt8)) = true := beq_iff_eq.mpr c10
                    have c10b1 : (a0.toList != ([62, 61] : List UInt8)) = false := bne_eq_false_iff_eq.mpr c10
                    clear c10
                    have H' := Aside0.mk H
                    clear H
                    go_wp2
                    go_meet
                    case rel => exact ⟨_, ((a0.toList == ([62, 61] : List UInt8))), (by first | rfl | (simp; done) | (simp [*]; done)), H', ⟨by first | omega | exact Nat.le_refl _⟩, by repeat (first | exact Drawn0.refl _ | apply Drawn0.step)⟩
                  · rw [if_neg c10] at H
                    have c10b0 : (a0.toList == ([62, 61] : List UInt8)) = false := beq_eq_false_iff_ne.mpr c10
                    have c10b1 : (a0.toList != ([62, 61] : List UInt8)) = true := bne_iff_ne.mpr c10
                    have H' := Aside0.mk H
                    clear H
                    go_wp2
                    go_meet
                    case rel => exact ⟨_, ((a0.toList == ([105, 115] : List UInt8))), (by first | rfl | (simp; done) | (simp [*]; done)), H', ⟨by first | omega | exact Nat.le_refl _⟩, by repeat (first | exact Drawn0.refl _ | apply Drawn0.step)⟩
      case rest =>
        clear HC4
        try clear c1
        try clear c2
        try clear c2b0
        try clear c2b1
        try clear p2
        try clear c3
        try clear c3b0
        try clear c3b1
        try clear c5
        try clear c5b0
        try clear c5b1
        try clear c6
        try clear c6b0
        try clear c6b1
        try clear c7
        try clear c7b0
        try clear c7b1
        try clear c8
        try clear c8b0
        try clear c8b1
        try clear c9
        try clear c9b0
        try clear c9b1
        try clear c10
        try clear c10b0
        try clear c10b1
        obtain ⟨kq, x8_3, rfl, HA, HJ3, ⟨mc3, rfl⟩⟩ := hcut
        cases kq with
        | zero => exact absurd HA.out (by simp [parse_binds.j0])
        | succ kj3 =>
          have H := HA.out
          clear HA
          simp only [parse_binds.j0] at H
          by_cases c11 : x8_3 = true
          · subst c11
            have H1 : (some 4) = some r := by rw [if_pos rfl] at H; exact H
            clear H
            have H := H1
            clear H1
            obtain rfl := Option.some.inj H
            go_wp2
            go_ret
            exact ⟨by first | rfl | (simp; done) | (simp [*]; done), by repeat (first | exact Drawn0.refl _ | apply Drawn0.step)⟩
          · replace c11 := Bool.eq_false_iff.mpr c11
            subst c11
            have H1 : (if a0.toList = ([43] : List UInt8) then (parse_binds.j1 kj3 a0 (a0.toList == ([43] : List UInt8))) else (if a0.toList = ([45] : List UInt8) then (parse_binds.j1 kj3 a0 (a0.toList == ([45] : List UInt8))) else (parse_binds.j1 kj3 a0 (a0.toList == ([124, 124] : List UInt8))))) = some r := by rw [if_neg (show ¬ (false = true) by decide)] at H; exact H
            clear H
            have H := H1
            clear H1
            have HC12 := Aside0.mk H
            clear H
            go_upto_if 16 with (fail)
            go_cut [16] (fun v16 wc => ∃ (kq : Nat) (x16_11 : Bool), v16 = .bool x16_11 ∧ Aside0 (parse_binds.j1 kq a0 x16_11 = some r) ∧ Aside0 (kq ≤ kj3) ∧ Drawn0 w wc)
            case first =>
              have H := HC12.out
              clear HC12
              by_cases c13 : a0.toList = ([43] : List UInt8)
              · rw [if_pos c13] at H
                have c13b0 : (a0.toList == ([43] : List UInt8)) = true := beq_iff_eq.mpr c13
                have c13b1 : (a0.toList != ([43] : List UInt8)) = false := bne_eq_false_iff_eq.mpr c13
                clear c13
                (first | rw [c13b0] | (simp only [i64_w, i32_w]; rw [c13b0]) | skip)
                have H' := Aside0.mk H
                clear H
                go_wp2
                go_meet
                case rel => exact ⟨_, ((a0.toList == ([43] : List UInt8))), (by first | rfl | (simp; done) | (simp [*]; done)), H', ⟨by have := HJ3.out; first | omega | exact Nat.le_refl _⟩, by repeat (first | exact Drawn0.refl _ | apply Drawn0.step)⟩
              · rw [if_neg c13] at H
                have c13b0 : (a0.toList == ([43] : List UInt8)) = false := beq_eq_false_iff_ne.mpr c13
                have c13b1 : (a0.toList != ([43] : List UInt8)) = true := bne_iff_ne.mpr c13
                (first | rw [c13b0] | (simp only [i64_w, i32_w]; rw [c13b0]) | skip)
                by_cases c14 : a0.toList = ([45] : List UInt8)
                · rw [if_pos c14] at H
                  have c14b0 : (a0.toList == ([45] : List UInt8)) = true := beq_iff_eq.mpr c14
                  have c14b1 : (a0.toList != ([45] : List UInt8)) = false := bne_eq_false_iff_eq.mpr c14
                  clear c14
                  have H' := Aside0.mk H
                  clear H
                  go_wp2
                  go_meet
                  case rel => exact ⟨_, ((a0.toList == ([45] : List UInt8))), (by first | rfl | (simp; done) | (simp [*]; done)), H', ⟨by have := HJ3.out; first | omega | exact Nat.le_refl _⟩, by repeat (first | exact Drawn0.refl _ | apply Drawn0.step)⟩
                · rw [if_neg c14] at H
                  have c14b0 : (a0.toList == ([45] : List UInt8)) = false := beq_eq_false_iff_ne.mpr c14
                  have c14b1 : (a0.toList != ([45] : List UInt8)) = true := bne_iff_ne.mpr c14
                  have H' := Aside0.mk H
                  clear H
                  go_wp2
                  go_meet
                  case rel => exact ⟨_, ((a0.toList == ([124, 124] : List UInt8))), (by first | rfl | (simp; done) | (simp [*]; done)), H', ⟨by have := HJ3.out; first | omega | exact Nat.le_refl _⟩, by repeat (first | exact Drawn0.refl _ | apply Drawn0.step)⟩
            case rest =>
              clear HC12
              try clear c1
              try clear c2
              try clear c2b0
              try clear c2b1
              try clear p2
              try clear c3
              try clear c3b0
              try clear c3b1
              try clear c5
              try clear c5b0
              try clear c5b1
              try clear c6
              try clear c6b0
              try clear c6b1
              try clear c7
              try clear c7b0
              try clear c7b1
              try clear c8
              try clear c8b0
              try clear c8b1
              try clear c9
              try clear c9b0
              try clear c9b1
              try clear c10
              try clear c10b0
              try clear c10b1
              try clear c11
              try clear c13
              try clear c13b0
              try clear c13b1
              try clear c14
              try clear c14b0
              try clear c14b1
              try clear p2
              obtain ⟨kq, x16_11, rfl, HA, HJ11, ⟨mc11, rfl⟩⟩ := hcut
              cases kq with
              | zero => exact absurd HA.out (by simp [parse_binds.j1])
              | succ kj11 =>
                have H := HA.out
                clear HA
                simp only [parse_binds.j1] at H
                by_cases c15 : x16_11 = true
                · subst c15
                  have H1 : (some 5) = some r := by rw [if_pos rfl] at H; exact H
                  clear H
                  have H := H1
                  clear H1
                  obtain rfl := Option.some.inj H
                  go_wp2
                  go_ret
                  exact ⟨by first | rfl | (simp; done) | (simp [*]; done), by repeat (first | exact Drawn0.refl _ | apply Drawn0.step)⟩
                · replace c15 := Bool.eq_false_iff.mpr c15
                  subst c15
                  have H1 : (if a0.toList = ([42] : List UInt8) then (some 6) else (if a0.toList = ([47] : List UInt8) then (some 6) else (if a0.toList = ([37] : List UInt8) then (some 6) else (some 0)))) = some r := by rw [if_neg (show ¬ (false = true) by decide)] at H; exact H
                  clear H
                  have H := H1
                  clear H1
                  by_cases c16 : a0.toList = ([42] : List UInt8)
                  · rw [if_pos c16] at H
                    have c16b0 : (a0.toList == ([42] : List UInt8)) = true := beq_iff_eq.mpr c16
                    have c16b1 : (a0.toList != ([42] : List UInt8)) = false := bne_eq_false_iff_eq.mpr c16
                    clear c16
                    obtain rfl := Option.some.inj H
                    go_wp2
                    go_ret
                    exact ⟨by first | rfl | (simp; done) | (simp [*]; done), by repeat (first | exact Drawn0.refl _ | apply Drawn0.step)⟩
                  · rw [if_neg c16] at H
                    have c16b0 : (a0.toList == ([42] : List UInt8)) = false := beq_eq_false_iff_ne.mpr c16
                    have c16b1 : (a0.toList != ([42] : List UInt8)) = true := bne_iff_ne.mpr c16
                    by_cases c17 : a0.toList = ([47] : List UInt8)
                    · rw [if_pos c17] at H
                      have c17b0 : (a0.toList == ([47] : List UInt8)) = true := beq_iff_eq.mpr c17
                      have c17b1 : (a0.toList != ([47] : List UInt8)) = false := bne_eq_false_iff_eq.mpr c17
                      clear c17
                      obtain rfl := Option.some.inj H
                      go_wp2
                      go_ret
                      exact ⟨by first | rfl | (simp; done) | (simp [*]; done), by repeat (first | exact Drawn0.refl _ | apply Drawn0.step)⟩
                    · rw [if_neg c17] at H
                      have c17b0 : (a0.toList == ([47] : List UInt8)) = false := beq_eq_false_iff_ne.mpr c17
                      have c17b1 : (a0.toList != ([47] : List UInt8)) = true := bne_iff_ne.mpr c17
                      by_cases c18 : a0.toList = ([37] : List UInt8)
                      · rw [if_pos c18] at H
                        have c18b0 : (a0.toList == ([37] : List UInt8)) = true := beq_iff_eq.mpr c18
                        have c18b1 : (a0.toList != ([37] : List UInt8)) = false := bne_eq_false_iff_eq.mpr c18
                        clear c18
                        obtain rfl := Option.some.inj H
                        go_wp2
                        go_ret
                        exact ⟨by first | rfl | (simp; done) | (simp [*]; done), by repeat (first | exact Drawn0.refl _ | apply Drawn0.step)⟩
                      · rw [if_neg c18] at H
                        have c18b0 : (a0.toList == ([37] : List UInt8)) = false := beq_eq_false_iff_ne.mpr c18
                        have c18b1 : (a0.toList != ([37] : List UInt8)) = true := bne_iff_ne.mpr c18
                        obtain rfl := Option.some.inj H
                        go_wp2
                        go_ret
                        exact ⟨by first | rfl | (simp; done) | (simp [*]; done), by repeat (first | exact Drawn0.refl _ | apply Drawn0.step)⟩
/-! ### parse_digits: function 177 -/
set_option maxHeartbeats 8000000 in
set_option maxRecDepth 100000 in
theorem parse_digits.calls (k : Nat) : ∀ (a0 : Int) (r : ByteArray) (w : World) (h : parse_digits.f k a0 = some r),
    Calls Tryz.prog 177 #[.int .u64 a0] w fun e w' => e = .returned (.string r) ∧ Below w.heap.size w w' := by
  induction k using Nat.strongRecOn with
  | _ k ih =>
  intro a0 r w h
  cases k with
  | zero => exact absurd h (by simp [parse_digits.f])
  | succ k =>
  simp only [parse_digits.f] at h
  have HB := Aside0.mk (Below.refl w.heap.size w)
  have H : (if a0 < 10 then (some (strOfNums (([(48 + ((a0) % 256)) % 256] : List Int)))) else ((parse_digits.f k (IntKind.u64.wrap (Int.tdiv a0 10))).bind fun t104 => ((parse_digits.f k (Int.tmod a0 10)).bind fun t105 => (if t104.size + t105.size ≤ 9223372036854775807 then (some (t104 ++ t105)) else (none))))) = some r := h
  clear h
  by_cases c2 : a0 < 10
  · rw [if_pos c2] at H
    have c2b0 : decide (a0 < 10) = true := decide_eq_true c2
    clear c2
    obtain ⟨y101, hy101⟩ : ∃ y_ : List Int, y_ = (([(48 + ((a0) % 256)) % 256] : List Int)) := ⟨_, rfl⟩
    replace H : (some (strOfNums y101)) = some r := by first | (rw [hy101]; with_reducible exact H) | (have H2_ := (Option.bind_some _ _).symm.trans H; rw [hy101]; with_reducible exact H2_) | (have H2_ := (Option.bind_some _ _).symm.trans H; with_reducible exact H2_) | with_reducible exact H | (rw [hy101]; exact H) | exact H
    have Ny101 := Aside0.mk hy101
    clear hy101
    obtain rfl := Option.some.inj H
    go_enter Tryz.func177, Tryz.ntmps177
    go_wp2_with (first | ((with_reducible refine gate_dst (N := 8) rfl ?_); refine Kd.R_lit (Kd.int .u8) _ 5 ?hg (N := 8) ?hd (xs := ([(48 + ((a0) % 256)) % 256] : List Int)) (inner := [.int .u8 ((48 + ((a0) % 256)) % 256)]) (ok := fun _ => True) (okp := fun _ => True) ?hr ?hp (fun _ hk => hk) trivial (Below.refl _ _) (Nat.le_refl _) (by simp) ?_; (case hd => rfl); (case hg => rfl); (case hr => first | (go_simp; done) | (go_simp; rfl)); (case hp => exact (Reps.one (show Kd.M (Kd.int .u8) _ _ _ ((48 + ((a0) % 256)) % 256) [.int .u8 ((48 + ((a0) % 256)) % 256)] from rfl) (Reps.none _ _))); intro v102 w3 ho4 hb hg_ hnew_; clear hg_ hnew_; (first | rw [← Ny101.out] at ho4 | (simp only [Int.reduceToNat] at ho4; rw [← Ny101.out] at ho4)); have n0_ := Aside0.mk (Kd.R_lower ho4 (below_size (by repeat (first | (with_reducible first | exact HB.out | apply below_alloc | apply pw_below_drewN | apply below_drew1) | exact HB.out)))); have n1_ := Aside0.mk (below_step (by repeat (first | (with_reducible first | exact HB.out | apply below_alloc | apply pw_below_drewN | apply below_drew1) | exact HB.out)) hb); clear HB; have HO103 := n0_; have HB := n1_; clear n0_ n1_; clear hb ho4; have hcv5 := own_string (P := Tryz.prog) Tryz.underlying36 Tryz.underlying5 Tryz.underlying9 (Kd.own_of_R HO103.out)))
    go_ret
    exact ⟨by first | rfl | (simp [errW_none, errW_some] <;> rfl) | (simp [*, errW_none, errW_some] <;> rfl), by repeat (first | (with_reducible first | exact HB.out | apply below_alloc | apply pw_below_drewN | apply below_drew1) | exact HB.out)⟩
  · rw [if_neg c2] at H
    have c2b0 : decide (a0 < 10) = false := decide_eq_false c2
    clear c2
    replace H := Option.bind_eq_some_iff.mp H
    obtain ⟨t104, A60, H⟩ := H
    replace H : ((parse_digits.f k (Int.tmod a0 10)).bind fun t105 => (if t104.size + t105.size ≤ 9223372036854775807 then (some (t104 ++ t105)) else (none))) = some r := H
    have A6 := Aside0.mk A60
    clear A60
    replace H := Option.bind_eq_some_iff.mp H
    obtain ⟨t105, A70, H⟩ := H
    replace H : (if t104.size + t105.size ≤ 9223372036854775807 then (some (t104 ++ t105)) else (none)) = some r := H
    have A7 := Aside0.mk A70
    clear A70
    by_cases c8 : t104.size + t105.size ≤ 9223372036854775807
    · rw [if_pos c8] at H
      have c8b0 := eq_true c8
      have c8b1 : decide (t104.size + t105.size ≤ 9223372036854775807) = true := decide_eq_true c8
      try have c8b2 : (9223372036854775807 < t104.size + t105.size) = False := eq_false (Nat.not_lt.2 c8)
      obtain rfl := Option.some.inj H
      go_enter Tryz.func177, Tryz.ntmps177
      go_wp2_with (first | ((with_reducible refine gate_callee (f := 177) rfl ?_); refine goesL_ (some 12) rfl rfl Tryz.func177 (by kernel_rfl) rfl #[.int .u64 (IntKind.u64.wrap (Int.tdiv a0 10))] rfl (by (try simp only [List.map_toArray, List.map_cons, List.map_nil]); first | done | rfl | (simp only [List.length_drop, List.length_take]; rfl)) ?_; (with_reducible refine (ih k (by omega) (IntKind.u64.wrap (Int.tdiv a0 10)) t104 _ A6.out).mono ?_); rintro e w9 ⟨rfl, hb⟩; refine ⟨_, rfl, ?_⟩; have n0_ := Aside0.mk (below_step (by repeat (first | (with_reducible first | exact HB.out | apply below_alloc | apply pw_below_drewN | apply below_drew1) | exact HB.out)) hb); clear HB; have HB := n0_; clear n0_; (try clear hb); (try clear hb2); (try clear hk); (try clear hi)) | ((with_reducible refine gate_callee (f := 177) rfl ?_); refine goesL_ (some 15) rfl rfl Tryz.func177 (by kernel_rfl) rfl #[.int .u64 (Int.tmod a0 10)] rfl (by (try simp only [List.map_toArray, List.map_cons, List.map_nil]); first | done | rfl | (simp only [List.length_drop, List.length_take]; rfl)) ?_; (with_reducible refine (ih k (by omega) (Int.tmod a0 10) t105 _ A7.out).mono ?_); rintro e w10 ⟨rfl, hb⟩; refine ⟨_, rfl, ?_⟩; have n0_ := Aside0.mk (below_step (by repeat (first | (with_reducible first | exact HB.out | apply below_alloc | apply pw_below_drewN | apply below_drew1) | exact HB.out)) hb); clear HB; have HB := n0_; clear n0_; (try clear hb); (try clear hb2); (try clear hk); (try clear hi)))
      go_ret
      exact ⟨by first | rfl | (simp [errW_none, errW_some] <;> rfl) | (simp [*, errW_none, errW_some] <;> rfl), by repeat (first | (with_reducible first | exact HB.out | apply below_alloc | apply pw_below_drewN | apply below_drew1) | exact HB.out)⟩
    · rw [if_neg c8] at H
      exact absurd H (by simp)
/-! ### parse_literal: function 101 -/
set_option maxHeartbeats 8000000 in
set_option maxRecDepth 100000 in
theorem parse_literal.calls (k : Nat) (a0_0 : Int) (a0_1 : Int) (a0_2 : ByteArray) (r : ByteArray) (w : World) (h : parse_literal.f k a0_0 a0_1 a0_2 = some r) (hG : GV w) :
    Calls Tryz.prog 101 #[.agg #[.int .i64 a0_0, .int .i64 a0_1, .string a0_2]] w fun e w' => e = .returned (.string r) ∧ Below w.heap.size w w' := by
  have hu40 := Tryz.underlying40
  have HB := Aside0.mk (Below.refl w.heap.size w)
  have H : (if a0_0 = 0 then (some (⟨#[110, 117, 108, 108]⟩ : ByteArray)) else (if a0_0 = 2 then (parse_literal.j0 k true a0_0 a0_1 a0_2) else (parse_literal.j0 k (a0_0 != 1) a0_0 a0_1 a0_2))) = some r := h
  clear h
  by_cases c2 : a0_0 = 0
  · rw [if_pos c2] at H
    have c2b0 : (a0_0 == 0) = true := beq_iff_eq.mpr c2
    have c2b1 : (a0_0 != 0) = false := bne_eq_false_iff_eq.mpr c2
    clear c2
    obtain rfl := Option.some.inj H
    go_enter Tryz.func101, Tryz.ntmps101
    go_wp2_with (first | ((with_reducible refine gate_dst (N := 1) rfl ?_); refine box_event ?hg (N := 1) ?hd (cs := #[.int .i64 a0_0, .int .i64 a0_1, .string a0_2]) (t := 40) ?hr ?_; (case hd => rfl); (case hg => rfl); (case hr => first | (go_simp; done) | (go_simp; rfl)); intro gb106 hg w3 hbox hb; have n0_ := Aside0.mk (below_step (by repeat (first | (with_reducible first | exact HB.out | apply below_alloc | apply pw_below_drewN | apply below_drew1) | exact HB.out)) hb); have n1_ := Aside0.mk (hbox); have n2_ := Aside0.mk ((by rw [hg]; exact (below_size (by repeat (first | (with_reducible first | exact HB.out | apply below_alloc | apply pw_below_drewN | apply below_drew1) | exact HB.out))) : w.heap.size ≤ gb106)); have n3_ := Aside0.mk ((by rw [hg]; exact (below_size (by repeat (first | (with_reducible first | exact HB.out | apply below_alloc | apply pw_below_drewN | apply below_drew1) | exact HB.out))) : w.heap.size ≤ gb106)); clear HB; have HB := n0_; have BK106 := n1_; have GW106 := n2_; have GE106 := n3_; clear n0_ n1_ n2_ n3_; clear hb hbox hg; have hcz4_0 : w3.cell? ⟨gb106, 0, none⟩ = some (.int .i64 a0_0) := (blk_cell BK106.out 0).trans rfl; have hcz4_1 : w3.cell? ⟨gb106, 1, none⟩ = some (.int .i64 a0_1) := (blk_cell BK106.out 1).trans rfl; have hcz4_2 : w3.cell? ⟨gb106, 2, none⟩ = some (.string a0_2) := (blk_cell BK106.out 2).trans rfl; have hfz4_0 := blk_frozen BK106.out 0; have hfz4_1 := blk_frozen BK106.out 1; have hfz4_2 := blk_frozen BK106.out 2))
    go_ret
    exact ⟨by first | rfl | (simp [errW_none, errW_some] <;> rfl) | (simp [*, errW_none, errW_some] <;> rfl), by repeat (first | (with_reducible first | exact HB.out | apply below_alloc | apply pw_below_drewN | apply below_drew1 | refine below_set ?_ GE106.out) | exact HB.out)⟩
  · rw [if_neg c2] at H
    have c2b0 : (a0_0 == 0) = false := beq_eq_false_iff_ne.mpr c2
    have c2b1 : (a0_0 != 0) = true := bne_iff_ne.mpr c2
    have HC5 := Aside0.mk H
    clear H
    go_enter Tryz.func101, Tryz.ntmps101
    go_upto_region 3 with (first | ((with_reducible refine gate_dst (N := 1) rfl ?_); refine box_event ?hg (N := 1) ?hd (cs := #[.int .i64 a0_0, .int .i64 a0_1, .string a0_2]) (t := 40) ?hr ?_; (case hd => rfl); (case hg => rfl); (case hr => first | (go_simp; done) | (go_simp; rfl)); intro gb106 hg w6 hbox hb; have n0_ := Aside0.mk (below_step (by repeat (first | (with_reducible first | exact HB.out | apply below_alloc | apply pw_below_drewN | apply below_drew1) | exact HB.out)) hb); have n1_ := Aside0.mk (hbox); have n2_ := Aside0.mk ((by rw [hg]; exact (below_size (by repeat (first | (with_reducible first | exact HB.out | apply below_alloc | apply pw_below_drewN | apply below_drew1) | exact HB.out))) : w.heap.size ≤ gb106)); have n3_ := Aside0.mk ((by rw [hg]; exact (below_size (by repeat (first | (with_reducible first | exact HB.out | apply below_alloc | apply pw_below_drewN | apply below_drew1) | exact HB.out))) : w.heap.size ≤ gb106)); clear HB; have HB := n0_; have BK106 := n1_; have GW106 := n2_; have GE106 := n3_; clear n0_ n1_ n2_ n3_; clear hb hbox hg; have hcz7_0 : w6.cell? ⟨gb106, 0, none⟩ = some (.int .i64 a0_0) := (blk_cell BK106.out 0).trans rfl; have hcz7_1 : w6.cell? ⟨gb106, 1, none⟩ = some (.int .i64 a0_1) := (blk_cell BK106.out 1).trans rfl; have hcz7_2 : w6.cell? ⟨gb106, 2, none⟩ = some (.string a0_2) := (blk_cell BK106.out 2).trans rfl; have hfz7_0 := blk_frozen BK106.out 0; have hfz7_1 := blk_frozen BK106.out 1; have hfz7_2 := blk_frozen BK106.out 2))
    (try simp only [Act.put, List.setIfInBounds_toArray, List.set_cons_zero, List.set_cons_succ])
    go_cut [7] (fun v7 wc => ∃ (kq : Nat) (x7_4 : Bool), v7 = .bool x7_4 ∧ Aside0 (parse_literal.j0 kq x7_4 a0_0 a0_1 a0_2 = some r) ∧ Aside0 (kq ≤ k) ∧ Aside0 (wc.heap[gb106]? = some (.cells #[.int .i64 a0_0, .int .i64 a0_1, .string a0_2] 40 (0, 0))) ∧ Aside0 (Below w.heap.size w wc))
    case first =>
      have H := HC5.out
      clear HC5
      by_cases c8 : a0_0 = 2
      · rw [if_pos c8] at H
        have c8b0 : (a0_0 == 2) = true := beq_iff_eq.mpr c8
        have c8b1 : (a0_0 != 2) = false := bne_eq_false_iff_eq.mpr c8
        clear c8
        (first | rw [c8b0] | (simp only [i64_w, i32_w]; rw [c8b0]) | skip)
        have H' := Aside0.mk H
        clear H
        have hcz9_0 : w6.cell? ⟨gb106, 0, none⟩ = some (.int .i64 a0_0) := (blk_cell BK106.out 0).trans rfl
        have hcz9_1 : w6.cell? ⟨gb106, 1, none⟩ = some (.int .i64 a0_1) := (blk_cell BK106.out 1).trans rfl
        have hcz9_2 : w6.cell? ⟨gb106, 2, none⟩ = some (.string a0_2) := (blk_cell BK106.out 2).trans rfl
        have hfz9_0 := blk_frozen BK106.out 0
        have hfz9_1 := blk_frozen BK106.out 1
        have hfz9_2 := blk_frozen BK106.out 2
        go_wp2
        go_meet
        case rel => exact ⟨_, (true), (by first | rfl | (simp; done) | (simp [*]; done)), H', ⟨by first | omega | exact Nat.le_refl _⟩, ⟨by (with_reducible repeat (first | refine blk_drewN ?_ _ | refine blk_drew ?_ | refine blk_alloc ?_ _)); exact BK106.out⟩, ⟨by repeat (first | (with_reducible first | exact HB.out | apply below_alloc | apply pw_below_drewN | apply below_drew1 | refine below_set ?_ GE106.out) | exact HB.out)⟩⟩
      · rw [if_neg c8] at H
        have c8b0 : (a0_0 == 2) = false := beq_eq_false_iff_ne.mpr c8
        have c8b1 : (a0_0 != 2) = true := bne_iff_ne.mpr c8
        (first | rw [c8b0] | (simp only [i64_w, i32_w]; rw [c8b0]) | skip)
        have H' := Aside0.mk H
        clear H
        have hcz10_0 : w6.cell? ⟨gb106, 0, none⟩ = some (.int .i64 a0_0) := (blk_cell BK106.out 0).trans rfl
        have hcz10_1 : w6.cell? ⟨gb106, 1, none⟩ = some (.int .i64 a0_1) := (blk_cell BK106.out 1).trans rfl
        have hcz10_2 : w6.cell? ⟨gb106, 2, none⟩ = some (.string a0_2) := (blk_cell BK106.out 2).trans rfl
        have hfz10_0 := blk_frozen BK106.out 0
        have hfz10_1 := blk_frozen BK106.out 1
        have hfz10_2 := blk_frozen BK106.out 2
        go_wp2
        go_meet
        case rel => exact ⟨_, ((a0_0 != 1)), (by first | rfl | (simp; done) | (simp [*]; done)), H', ⟨by first | omega | exact Nat.le_refl _⟩, ⟨by (with_reducible repeat (first | refine blk_drewN ?_ _ | refine blk_drew ?_ | refine blk_alloc ?_ _)); exact BK106.out⟩, ⟨by repeat (first | (with_reducible first | exact HB.out | apply below_alloc | apply pw_below_drewN | apply below_drew1 | refine below_set ?_ GE106.out) | exact HB.out)⟩⟩
    case rest =>
      clear HC5
      try clear c1
      try clear c2
      try clear c2b0
      try clear c2b1
      try clear p2
      try clear c8
      try clear c8b0
      try clear c8b1
      try clear c10
      try clear hcz10_0
      try clear hcz10_1
      try clear hcz10_2
      try clear hcz4_0
      try clear hcz4_1
      try clear hcz4_2
      try clear hcz7_0
      try clear hcz7_1
      try clear hcz7_2
      try clear hcz9_0
      try clear hcz9_1
      try clear hcz9_2
      try clear hfz10_0
      try clear hfz10_1
      try clear hfz10_2
      try clear hfz4_0
      try clear hfz4_1
      try clear hfz4_2
      try clear hfz7_0
      try clear hfz7_1
      try clear hfz7_2
      try clear hfz9_0
      try clear hfz9_1
      try clear hfz9_2
      obtain ⟨kq, x7_4, rfl, HA, HJ4, BK106, HB⟩ := hcut
      cases kq with
      | zero => exact absurd HA.out (by simp [parse_literal.j0])
      | succ kj4 =>
        have H := HA.out
        clear HA
        simp only [parse_literal.j0] at H
        by_cases c11 : x7_4 = true
        · subst c11
          have H1 : ((strings_ReplaceAll.f a0_2 (⟨#[39]⟩ : ByteArray) (⟨#[39, 39]⟩ : ByteArray)).bind fun t107 => (if 1 + t107.size ≤ 9223372036854775807 then (if ((⟨#[39]⟩ : ByteArray) ++ t107).size + 1 ≤ 9223372036854775807 then (some (((⟨#[39]⟩ : ByteArray) ++ t107) ++ (⟨#[39]⟩ : ByteArray))) else (none)) else (none))) = some r := by rw [if_pos rfl] at H; exact H
          clear H
          have H := H1
          clear H1
          replace H := Option.bind_eq_some_iff.mp H
          obtain ⟨t107, A120, H⟩ := H
          replace H : (if 1 + t107.size ≤ 9223372036854775807 then (if ((⟨#[39]⟩ : ByteArray) ++ t107).size + 1 ≤ 9223372036854775807 then (some (((⟨#[39]⟩ : ByteArray) ++ t107) ++ (⟨#[39]⟩ : ByteArray))) else (none)) else (none)) = some r := H
          have A12 := Aside0.mk A120
          clear A120
          by_cases c13 : 1 + t107.size ≤ 9223372036854775807
          · rw [if_pos c13] at H
            have c13b0 := eq_true c13
            have c13b1 : decide (1 + t107.size ≤ 9223372036854775807) = true := decide_eq_true c13
            try have c13b2 : (9223372036854775807 < 1 + t107.size) = False := eq_false (Nat.not_lt.2 c13)
            by_cases c14 : ((⟨#[39]⟩ : ByteArray) ++ t107).size + 1 ≤ 9223372036854775807
            · rw [if_pos c14] at H
              have c14b0 := eq_true c14
              have c14s : (1 + t107.size) + 1 ≤ 9223372036854775807 := by have z_ := c14; rw [ByteArray.size_append] at z_; exact z_
              have c14s1 := eq_true c14s
              have c14s2 : decide ((1 + t107.size) + 1 ≤ 9223372036854775807) = true := decide_eq_true c14s
              have c14b1 : decide (((⟨#[39]⟩ : ByteArray) ++ t107).size + 1 ≤ 9223372036854775807) = true := decide_eq_true c14
              try have c14b2 : (9223372036854775807 < ((⟨#[39]⟩ : ByteArray) ++ t107).size + 1) = False := eq_false (Nat.not_lt.2 c14)
              obtain rfl := Option.some.inj H
              have hcz15_0 : wc.cell? ⟨gb106, 0, none⟩ = some (.int .i64 a0_0) := (blk_cell BK106.out 0).trans rfl
              have hcz15_1 : wc.cell? ⟨gb106, 1, none⟩ = some (.int .i64 a0_1) := (blk_cell BK106.out 1).trans rfl
              have hcz15_2 : wc.cell? ⟨gb106, 2, none⟩ = some (.string a0_2) := (blk_cell BK106.out 2).trans rfl
              have hfz15_0 := blk_frozen BK106.out 0
              have hfz15_1 := blk_frozen BK106.out 1
              have hfz15_2 := blk_frozen BK106.out 2
              go_wp2_with (first | ((with_reducible refine gate_callee (f := 65) rfl ?_); refine goesL_ (some 18) rfl rfl Tryz.func65 (by kernel_rfl) rfl #[.string a0_2, .string (⟨#[39]⟩ : ByteArray), .string (⟨#[39, 39]⟩ : ByteArray)] rfl (by (try simp only [List.map_toArray, List.map_cons, List.map_nil]); first | done | rfl | (simp only [List.length_drop, List.length_take]; rfl)) ?_; (with_reducible refine (strings_ReplaceAll.calls a0_2 (⟨#[39]⟩ : ByteArray) (⟨#[39, 39]⟩ : ByteArray) t107 _ A12.out (GV.below hG (by repeat (first | (with_reducible first | exact HB.out | apply below_alloc | apply pw_below_drewN | apply below_drew1 | refine below_set ?_ GE106.out) | exact HB.out)))).mono ?_); rintro e w16 ⟨rfl, hb⟩; refine ⟨_, rfl, ?_⟩; have n0_ := Aside0.mk (blk_below (g := gb106) (o := .cells #[.int .i64 a0_0, .int .i64 a0_1, .string a0_2] 40 (0, 0)) (by (with_reducible repeat (first | refine blk_drewN ?_ _ | refine blk_drew ?_ | refine blk_alloc ?_ _)); exact BK106.out) hb); have n1_ := Aside0.mk (below_step (by repeat (first | (with_reducible first | exact HB.out | apply below_alloc | apply pw_below_drewN | apply below_drew1 | refine below_set ?_ GE106.out) | exact HB.out)) hb); clear BK106; clear HB; have BK106 := n0_; have HB := n1_; clear n0_ n1_; (try clear hb); (try clear hb2); (try clear hk); (try clear hi)))
              go_ret
              exact ⟨by first | rfl | (simp [errW_none, errW_some] <;> rfl) | (simp [*, errW_none, errW_some] <;> rfl), by repeat (first | (with_reducible first | exact HB.out | apply below_alloc | apply pw_below_drewN | apply below_drew1 | refine below_set ?_ GE106.out) | exact HB.out)⟩
            · rw [if_neg c14] at H
              exact absurd H (by simp)
          · rw [if_neg c13] at H
            exact absurd H (by simp)
        · replace c11 := Bool.eq_false_iff.mpr c11
          subst c11
          have H1 : (if a0_1 < 0 then ((parse_digits.f kj4 (IntKind.u64.wrap (wrap64 (-a0_1)))).bind fun t108 => (if 1 + t108.size ≤ 9223372036854775807 then (some ((⟨#[45]⟩ : ByteArray) ++ t108)) else (none))) else ((parse_digits.f kj4 (IntKind.u64.wrap (a0_1))).bind fun t109 => (some t109))) = some r := by rw [if_neg (show ¬ (false = true) by decide)] at H; exact H
          clear H
          have H := H1
          clear H1
          by_cases c17 : a0_1 < 0
          · rw [if_pos c17] at H
            have c17b0 : decide (a0_1 < 0) = true := decide_eq_true c17
            clear c17
            replace H := Option.bind_eq_some_iff.mp H
            obtain ⟨t108, A180, H⟩ := H
            replace H : (if 1 + t108.size ≤ 9223372036854775807 then (some ((⟨#[45]⟩ : ByteArray) ++ t108)) else (none)) = some r := H
            have A18 := Aside0.mk A180
            clear A180
            by_cases c19 : 1 + t108.size ≤ 9223372036854775807
            · rw [if_pos c19] at H
              have c19b0 := eq_true c19
              have c19b1 : decide (1 + t108.size ≤ 9223372036854775807) = true := decide_eq_true c19
              try have c19b2 : (9223372036854775807 < 1 + t108.size) = False := eq_false (Nat.not_lt.2 c19)
              obtain rfl := Option.some.inj H
              have hcz20_0 : wc.cell? ⟨gb106, 0, none⟩ = some (.int .i64 a0_0) := (blk_cell BK106.out 0).trans rfl
              have hcz20_1 : wc.cell? ⟨gb106, 1, none⟩ = some (.int .i64 a0_1) := (blk_cell BK106.out 1).trans rfl
              have hcz20_2 : wc.cell? ⟨gb106, 2, none⟩ = some (.string a0_2) := (blk_cell BK106.out 2).trans rfl
              have hfz20_0 := blk_frozen BK106.out 0
              have hfz20_1 := blk_frozen BK106.out 1
              have hfz20_2 := blk_frozen BK106.out 2
              go_wp2_with (first | ((with_reducible refine gate_callee (f := 177) rfl ?_); refine goesL_ (some 29) rfl rfl Tryz.func177 (by kernel_rfl) rfl #[.int .u64 (IntKind.u64.wrap (wrap64 (-a0_1)))] rfl (by (try simp only [List.map_toArray, List.map_cons, List.map_nil]); first | done | rfl | (simp only [List.length_drop, List.length_take]; rfl)) ?_; (with_reducible refine (parse_digits.calls kj4 (IntKind.u64.wrap (wrap64 (-a0_1))) t108 _ A18.out).mono ?_); rintro e w21 ⟨rfl, hb⟩; refine ⟨_, rfl, ?_⟩; have n0_ := Aside0.mk (blk_below (g := gb106) (o := .cells #[.int .i64 a0_0, .int .i64 a0_1, .string a0_2] 40 (0, 0)) (by (with_reducible repeat (first | refine blk_drewN ?_ _ | refine blk_drew ?_ | refine blk_alloc ?_ _)); exact BK106.out) hb); have n1_ := Aside0.mk (below_step (by repeat (first | (with_reducible first | exact HB.out | apply below_alloc | apply pw_below_drewN | apply below_drew1 | refine below_set ?_ GE106.out) | exact HB.out)) hb); clear BK106; clear HB; have BK106 := n0_; have HB := n1_; clear n0_ n1_; (try clear hb); (try clear hb2); (try clear hk); (try clear hi)))
              go_ret
              exact ⟨by first | rfl | (simp [errW_none, errW_some] <;> rfl) | (simp [*, errW_none, errW_some] <;> rfl), by repeat (first | (with_reducible first | exact HB.out | apply below_alloc | apply pw_below_drewN | apply below_drew1 | refine below_set ?_ GE106.out) | exact HB.out)⟩
            · rw [if_neg c19] at H
              exact absurd H (by simp)
          · rw [if_neg c17] at H
            have c17b0 : decide (a0_1 < 0) = false := decide_eq_false c17
            clear c17
            replace H := Option.bind_eq_some_iff.mp H
            obtain ⟨t109, A220, H⟩ := H
            replace H : (some t109) = some r := H
            have A22 := Aside0.mk A220
            clear A220
            obtain rfl := Option.some.inj H
            have hcz23_0 : wc.cell? ⟨gb106, 0, none⟩ = some (.int .i64 a0_0) := (blk_cell BK106.out 0).trans rfl
            have hcz23_1 : wc.cell? ⟨gb106, 1, none⟩ = some (.int .i64 a0_1) := (blk_cell BK106.out 1).trans rfl
            have hcz23_2 : wc.cell? ⟨gb106, 2, none⟩ = some (.string a0_2) := (blk_cell BK106.out 2).trans rfl
            have hfz23_0 := blk_frozen BK106.out 0
            have hfz23_1 := blk_frozen BK106.out 1
            have hfz23_2 := blk_frozen BK106.out 2
            go_wp2_with (first | ((with_reducible refine gate_callee (f := 177) rfl ?_); refine goesL_ (some 34) rfl rfl Tryz.func177 (by kernel_rfl) rfl #[.int .u64 (IntKind.u64.wrap (a0_1))] rfl (by (try simp only [List.map_toArray, List.map_cons, List.map_nil]); first | done | rfl | (simp only [List.length_drop, List.length_take]; rfl)) ?_; (with_reducible refine (parse_digits.calls kj4 (IntKind.u64.wrap (a0_1)) t109 _ A22.out).mono ?_); rintro e w24 ⟨rfl, hb⟩; refine ⟨_, rfl, ?_⟩; have n0_ := Aside0.mk (blk_below (g := gb106) (o := .cells #[.int .i64 a0_0, .int .i64 a0_1, .string a0_2] 40 (0, 0)) (by (with_reducible repeat (first | refine blk_drewN ?_ _ | refine blk_drew ?_ | refine blk_alloc ?_ _)); exact BK106.out) hb); have n1_ := Aside0.mk (below_step (by repeat (first | (with_reducible first | exact HB.out | apply below_alloc | apply pw_below_drewN | apply below_drew1 | refine below_set ?_ GE106.out) | exact HB.out)) hb); clear BK106; clear HB; have BK106 := n0_; have HB := n1_; clear n0_ n1_; (try clear hb); (try clear hb2); (try clear hk); (try clear hi)))
            go_ret
            exact ⟨by first | rfl | (simp [errW_none, errW_some] <;> rfl) | (simp [*, errW_none, errW_some] <;> rfl), by repeat (first | (with_reducible first | exact HB.out | apply below_alloc | apply pw_below_drewN | apply below_drew1 | refine below_set ?_ GE106.out) | exact HB.out)⟩
/-! ### parse_Depth: function 43 -/
set_option maxHeartbeats 8000000 in
set_option maxRecDepth 100000 in
theorem parse_Depth.calls (k : Nat) : ∀ (a0_0 : ByteArray) (a0_1 : Int) (a0_2 : Int) (a0_3 : ByteArray) (a0_4 : ByteArray) (A0_5 : Option Addr) (c0_5 : Nat) (l0_5 : List (S43)) (r : Int) (w : World) (hr0_5 : Kd.C k43 w A0_5 l0_5.length l0_5) (hc0_5 : l0_5.length ≤ c0_5) (h : parse_Depth.f k a0_0 a0_1 a0_2 a0_3 a0_4 l0_5 = some r),
    Calls Tryz.prog 43 #[.agg #[.string a0_0, .int .i64 a0_1, .int .i64 a0_2, .string a0_3, .string a0_4, .slice A0_5 l0_5.length c0_5]] w fun e w' => e = .returned (.int .i64 r) ∧ Below w.heap.size w w' := by
  induction k using Nat.strongRecOn with
  | _ k ih =>
  intro a0_0 a0_1 a0_2 a0_3 a0_4 A0_5 c0_5 l0_5 r w hr0_5 hc0_5 h
  cases k with
  | zero => exact absurd h (by simp [parse_Depth.f])
  | succ k =>
  simp only [parse_Depth.f] at h
  have hu43 := Tryz.underlying43
  have HR0_5 := Aside0.mk hr0_5
  have HC0_5 := Aside0.mk hc0_5
  clear hr0_5 hc0_5
  have HB := Aside0.mk (Below.refl w.heap.size w)
  have H : (parse_Depth.l0 k 0 l0_5 (l0_5.length : Int) 0) = some r := h
  clear h
  have H' := Aside0.mk H
  clear H
  go_enter Tryz.func43, Tryz.ntmps43
  go_wp2_with (first | ((with_reducible refine gate_dst (N := 1) rfl ?_); refine box_event ?hg (N := 1) ?hd (cs := #[.string a0_0, .int .i64 a0_1, .int .i64 a0_2, .string a0_3, .string a0_4, .slice A0_5 l0_5.length c0_5]) (t := 43) ?hr ?_; (case hd => rfl); (case hg => rfl); (case hr => first | (go_simp; done) | (go_simp; rfl)); intro gb110 hg w2 hbox hb; have n0_ := Aside0.mk (below_step (by repeat (first | (with_reducible first | exact HB.out | apply below_alloc | apply pw_below_drewN | apply below_drew1) | exact HB.out)) hb); have n1_ := Aside0.mk (hbox); have n2_ := Aside0.mk ((by rw [hg]; exact (below_size (by repeat (first | (with_reducible first | exact HB.out | apply below_alloc | apply pw_below_drewN | apply below_drew1) | exact HB.out))) : w.heap.size ≤ gb110)); have n3_ := Aside0.mk ((by rw [hg]; exact (below_size (by repeat (first | (with_reducible first | exact HB.out | apply below_alloc | apply pw_below_drewN | apply below_drew1) | exact HB.out))) : w.heap.size ≤ gb110)); clear HB; have HB := n0_; have BK110 := n1_; have GW110 := n2_; have GE110 := n3_; clear n0_ n1_ n2_ n3_; clear hb hbox hg; have hcz3_0 : w2.cell? ⟨gb110, 0, none⟩ = some (.string a0_0) := (blk_cell BK110.out 0).trans rfl; have hcz3_1 : w2.cell? ⟨gb110, 1, none⟩ = some (.int .i64 a0_1) := (blk_cell BK110.out 1).trans rfl; have hcz3_2 : w2.cell? ⟨gb110, 2, none⟩ = some (.int .i64 a0_2) := (blk_cell BK110.out 2).trans rfl; have hcz3_3 : w2.cell? ⟨gb110, 3, none⟩ = some (.string a0_3) := (blk_cell BK110.out 3).trans rfl; have hcz3_4 : w2.cell? ⟨gb110, 4, none⟩ = some (.string a0_4) := (blk_cell BK110.out 4).trans rfl; have hcz3_5 : w2.cell? ⟨gb110, 5, none⟩ = some (.slice A0_5 l0_5.length c0_5) := (blk_cell BK110.out 5).trans rfl; have hfz3_0 := blk_frozen BK110.out 0; have hfz3_1 := blk_frozen BK110.out 1; have hfz3_2 := blk_frozen BK110.out 2; have hfz3_3 := blk_frozen BK110.out 3; have hfz3_4 := blk_frozen BK110.out 4; have hfz3_5 := blk_frozen BK110.out 5))
  go_loopg [3, 9] k (fun kq v3 v9 w' => ∃ (x3_1 : Int) (x9_1 : Int), v3 = .int .i64 x3_1 ∧ v9 = .int .i64 x9_1 ∧ Aside0 (parse_Depth.l0 kq x3_1 l0_5 (l0_5.length : Int) x9_1 = some r) ∧ Aside0 (kq ≤ k) ∧ Aside0 (w'.heap[gb110]? = some (.cells #[.string a0_0, .int .i64 a0_1, .int .i64 a0_2, .string a0_3, .string a0_4, (.slice A0_5 l0_5.length c0_5)] 43 (0, 0))) ∧ Aside0 (Below w.heap.size w w'))
  case atStart => exact ⟨(0), (0), (by first | rfl | (simp; done) | (simp [*]; done)), (by first | rfl | (simp; done) | (simp [*]; done)), H', ⟨Nat.le_refl _⟩, ⟨by (with_reducible repeat (first | refine blk_drewN ?_ _ | refine blk_drew ?_ | refine blk_alloc ?_ _)); exact BK110.out⟩, ⟨by repeat (first | (with_reducible first | exact HB.out | apply below_alloc | apply pw_below_drewN | apply below_drew1 | refine below_set ?_ GE110.out) | exact HB.out)⟩⟩
  case round =>
    clear H'
    try clear p2
    try clear hcz3_0
    try clear hcz3_1
    try clear hcz3_2
    try clear hcz3_3
    try clear hcz3_4
    try clear hcz3_5
    try clear hfz3_0
    try clear hfz3_1
    try clear hfz3_2
    try clear hfz3_3
    try clear hfz3_4
    try clear hfz3_5
    obtain ⟨x3_1, x9_1, rfl, rfl, HA, HK1, BK110, HB⟩ := hrel
    cases gk with
    | zero => exact absurd HA.out (by simp [parse_Depth.l0])
    | succ k1 =>
      have H := HA.out
      clear HA
      simp only [parse_Depth.l0] at H
      by_cases c4 : x9_1 < (l0_5.length : Int)
      · rw [if_pos c4] at H
        have c4b0 : decide (x9_1 < (l0_5.length : Int)) = true := decide_eq_true c4
        clear c4
        by_cases c5 : 0 ≤ x9_1
        · rw [if_pos c5] at H
          have c5b0 : decide (0 ≤ x9_1) = true := decide_eq_true c5
          clear c5
          by_cases c6 : x9_1 < (l0_5.length : Int)
          · rw [if_pos c6] at H
            have c6b0 : decide (x9_1 < (l0_5.length : Int)) = true := decide_eq_true c6
            clear c6
            replace H := Option.bind_eq_some_iff.mp H
            obtain ⟨t113, A70, H⟩ := H
            replace H : (parse_Depth.l0 k1 (mx x3_1 t113) l0_5 (l0_5.length : Int) (wrap64 (x9_1 + 1))) = some r := H
            have A7 := Aside0.mk A70
            clear A70
            obtain ⟨ji8, hji8⟩ : ∃ j_ : Int, (mx x3_1 t113) = j_ := ⟨_, rfl⟩
            replace H : (parse_Depth.l0 k1 ji8 l0_5 (l0_5.length : Int) (wrap64 (x9_1 + 1))) = some r := by first | (rw [hji8] at H; exact H) | (simp only [hji8] at H ⊢; exact H)
            (try rw [hji8] at A7)
            have hji8_ : (if x3_1 < t113 then t113 else x3_1) = ji8 := hji8
            have H' := Aside0.mk H
            clear H
            have p111 : 0 ≤ (x9_1 : Int) := of_decide_eq_true (by first | (with_reducible assumption) | assumption)
            have q111 : x9_1 < (l0_5.length : Int) := of_decide_eq_true (by first | (with_reducible assumption) | assumption)
            obtain ⟨ad111, A111_5, c111_5, e111, hx111_0, hx111_1, hx111_2, hx111_3, hx111_4, hx111_5, hl111_5, hi111_5⟩ := at_T43 HR0_5.out x9_1 p111 q111
            cases e111
            replace hx111_0 := (HB.out.cell (World.block_lt_of_cell? w _ hx111_0)).trans hx111_0
            replace hx111_1 := (HB.out.cell (World.block_lt_of_cell? w _ hx111_1)).trans hx111_1
            replace hx111_2 := (HB.out.cell (World.block_lt_of_cell? w _ hx111_2)).trans hx111_2
            replace hx111_3 := (HB.out.cell (World.block_lt_of_cell? w _ hx111_3)).trans hx111_3
            replace hx111_4 := (HB.out.cell (World.block_lt_of_cell? w _ hx111_4)).trans hx111_4
            replace hx111_5 := (HB.out.cell (World.block_lt_of_cell? w _ hx111_5)).trans hx111_5
            have HR111_5 := Aside0.mk hi111_5
            have HC111_5 := Aside0.mk hl111_5
            clear hi111_5 hl111_5
            replace p111 := eq_true p111
            replace q111 := eq_true q111
            go_wp2_with (first | ((with_reducible refine gate_dst (N := 5) rfl ?_); refine box_event ?hg (N := 5) ?hd (cs := #[.string (⟨#[]⟩ : ByteArray), .int .i64 0, .int .i64 0, .string (⟨#[]⟩ : ByteArray), .string (⟨#[]⟩ : ByteArray), .slice none 0 0]) (t := 43) ?hr ?_; (case hd => rfl); (case hg => rfl); (case hr => first | (go_simp; done) | (go_simp; rfl)); intro gb112 hg w9 hbox hb; have n0_ := Aside0.mk (blk_below (g := gb110) (o := .cells #[.string a0_0, .int .i64 a0_1, .int .i64 a0_2, .string a0_3, .string a0_4, .slice (some ad111) l0_5.length c0_5] 43 (0, 0)) (by (with_reducible repeat (first | refine blk_drewN ?_ _ | refine blk_drew ?_ | refine blk_alloc ?_ _)); exact BK110.out) hb); have n1_ := Aside0.mk (below_step (by repeat (first | (with_reducible first | exact HB.out | apply below_alloc | apply pw_below_drewN | apply below_drew1 | refine below_set ?_ GE110.out) | exact HB.out)) hb); have n2_ := Aside0.mk (hbox); have n3_ := Aside0.mk ((by rw [hg]; exact (below_size (by repeat (first | (with_reducible first | exact HB.out | apply below_alloc | apply pw_below_drewN | apply below_drew1 | refine below_set ?_ GE110.out) | exact HB.out))) : w.heap.size ≤ gb112)); have n4_ := Aside0.mk ((by rw [hg]; exact (below_size (by repeat (first | (with_reducible first | exact HB.out | apply below_alloc | apply pw_below_drewN | apply below_drew1 | refine below_set ?_ GE110.out) | exact HB.out))) : w.heap.size ≤ gb112)); have n5_ := Aside0.mk ((by rw [hg]; exact Nat.ne_of_lt (blk_lt (g := gb110) (o := .cells #[.string a0_0, .int .i64 a0_1, .int .i64 a0_2, .string a0_3, .string a0_4, .slice (some ad111) l0_5.length c0_5] 43 (0, 0)) (by (with_reducible repeat (first | refine blk_drewN ?_ _ | refine blk_drew ?_ | refine blk_alloc ?_ _)); exact BK110.out)) : gb110 ≠ gb112)); have n6_ := Aside0.mk ((by rw [hg]; exact Nat.ne_of_gt (blk_lt (g := gb110) (o := .cells #[.string a0_0, .int .i64 a0_1, .int .i64 a0_2, .string a0_3, .string a0_4, .slice (some ad111) l0_5.length c0_5] 43 (0, 0)) (by (with_reducible repeat (first | refine blk_drewN ?_ _ | refine blk_drew ?_ | refine blk_alloc ?_ _)); exact BK110.out)) : gb112 ≠ gb110)); clear BK110; clear HB; have BK110 := n0_; have HB := n1_; have BK112 := n2_; have GW112 := n3_; have GE112 := n4_; have NB110_112 := n5_; have NB112_110 := n6_; clear n0_ n1_ n2_ n3_ n4_ n5_ n6_; clear hb hbox hg; have hnb10 := NB112_110.out; have hnc10 := NB110_112.out; have hcz11_0 : w9.cell? ⟨gb112, 0, none⟩ = some (.string (⟨#[]⟩ : ByteArray)) := (blk_cell BK112.out 0).trans rfl; have hcz11_1 : w9.cell? ⟨gb112, 1, none⟩ = some (.int .i64 0) := (blk_cell BK112.out 1).trans rfl; have hcz11_2 : w9.cell? ⟨gb112, 2, none⟩ = some (.int .i64 0) := (blk_cell BK112.out 2).trans rfl; have hcz11_3 : w9.cell? ⟨gb112, 3, none⟩ = some (.string (⟨#[]⟩ : ByteArray)) := (blk_cell BK112.out 3).trans rfl; have hcz11_4 : w9.cell? ⟨gb112, 4, none⟩ = some (.string (⟨#[]⟩ : ByteArray)) := (blk_cell BK112.out 4).trans rfl; have hcz11_5 : w9.cell? ⟨gb112, 5, none⟩ = some (.slice none 0 0) := (blk_cell BK112.out 5).trans rfl; have hfz11_0 := blk_frozen BK112.out 0; have hfz11_1 := blk_frozen BK112.out 1; have hfz11_2 := blk_frozen BK112.out 2; have hfz11_3 := blk_frozen BK112.out 3; have hfz11_4 := blk_frozen BK112.out 4; have hfz11_5 := blk_frozen BK112.out 5) | ((with_reducible refine gate_callee (f := 43) rfl ?_); refine goesL_ (some 15) rfl rfl Tryz.func43 (by kernel_rfl) rfl #[.agg #[.string ((rd_T43 l0_5 x9_1).f0), .int .i64 ((rd_T43 l0_5 x9_1).f1.f0), .int .i64 ((rd_T43 l0_5 x9_1).f1.f1), .string ((rd_T43 l0_5 x9_1).f1.f2), .string ((rd_T43 l0_5 x9_1).f2), .slice A111_5 ((rd_T43 l0_5 x9_1).f3).length c111_5]] rfl (by (try simp only [List.map_toArray, List.map_cons, List.map_nil]); first | done | rfl | (simp only [List.length_drop, List.length_take]; rfl)) ?_; (with_reducible refine (ih k1 (by have := HK1.out; omega) ((rd_T43 l0_5 x9_1).f0) ((rd_T43 l0_5 x9_1).f1.f0) ((rd_T43 l0_5 x9_1).f1.f1) ((rd_T43 l0_5 x9_1).f1.f2) ((rd_T43 l0_5 x9_1).f2) _ _ ((rd_T43 l0_5 x9_1).f3) t113 _ ?side1 ?side2 A7.out).mono ?_); (case side1 => exact Kd.C_below HR111_5.out (by repeat (first | (with_reducible first | exact HB.out | apply below_alloc | apply pw_below_drewN | apply below_drew1 | refine below_set ?_ GE110.out | refine below_set ?_ GE112.out) | exact HB.out))); (case side2 => exact HC111_5.out); rintro e w12 ⟨rfl, hb⟩; refine ⟨_, rfl, ?_⟩; have n0_ := Aside0.mk (blk_below (g := gb110) (o := .cells #[.string a0_0, .int .i64 a0_1, .int .i64 a0_2, .string a0_3, .string a0_4, .slice (some ad111) l0_5.length c0_5] 43 (0, 0)) (by (with_reducible repeat (first | refine blk_drewN ?_ _ | refine blk_drew ?_ | refine blk_alloc ?_ _)); refine blk_far ?_ NB110_112.out _; (with_reducible repeat (first | refine blk_drewN ?_ _ | refine blk_drew ?_ | refine blk_alloc ?_ _)); refine blk_far ?_ NB110_112.out _; (with_reducible repeat (first | refine blk_drewN ?_ _ | refine blk_drew ?_ | refine blk_alloc ?_ _)); refine blk_far ?_ NB110_112.out _; (with_reducible repeat (first | refine blk_drewN ?_ _ | refine blk_drew ?_ | refine blk_alloc ?_ _)); refine blk_far ?_ NB110_112.out _; (with_reducible repeat (first | refine blk_drewN ?_ _ | refine blk_drew ?_ | refine blk_alloc ?_ _)); refine blk_far ?_ NB110_112.out _; (with_reducible repeat (first | refine blk_drewN ?_ _ | refine blk_drew ?_ | refine blk_alloc ?_ _)); refine blk_far ?_ NB110_112.out _; (with_reducible repeat (first | refine blk_drewN ?_ _ | refine blk_drew ?_ | refine blk_alloc ?_ _)); exact BK110.out) hb); have n1_ := Aside0.mk (blk_below (g := gb112) (o := .cells #[.string ((rd_T43 l0_5 x9_1).f0), .int .i64 ((rd_T43 l0_5 x9_1).f1.f0), .int .i64 ((rd_T43 l0_5 x9_1).f1.f1), .string ((rd_T43 l0_5 x9_1).f1.f2), .string ((rd_T43 l0_5 x9_1).f2), .slice A111_5 ((rd_T43 l0_5 x9_1).f3).length c111_5] 43 (0, 0)) (by (with_reducible repeat (first | refine blk_drewN ?_ _ | refine blk_drew ?_ | refine blk_alloc ?_ _)); refine blk_put (cs := #[.string ((rd_T43 l0_5 x9_1).f0), .int .i64 ((rd_T43 l0_5 x9_1).f1.f0), .int .i64 ((rd_T43 l0_5 x9_1).f1.f1), .string ((rd_T43 l0_5 x9_1).f1.f2), .string ((rd_T43 l0_5 x9_1).f2), .slice none 0 0]) ?_ 5 _ rfl; (with_reducible repeat (first | refine blk_drewN ?_ _ | refine blk_drew ?_ | refine blk_alloc ?_ _)); refine blk_put (cs := #[.string ((rd_T43 l0_5 x9_1).f0), .int .i64 ((rd_T43 l0_5 x9_1).f1.f0), .int .i64 ((rd_T43 l0_5 x9_1).f1.f1), .string ((rd_T43 l0_5 x9_1).f1.f2), .string (⟨#[]⟩ : ByteArray), .slice none 0 0]) ?_ 4 _ rfl; (with_reducible repeat (first | refine blk_drewN ?_ _ | refine blk_drew ?_ | refine blk_alloc ?_ _)); refine blk_put (cs := #[.string ((rd_T43 l0_5 x9_1).f0), .int .i64 ((rd_T43 l0_5 x9_1).f1.f0), .int .i64 ((rd_T43 l0_5 x9_1).f1.f1), .string (⟨#[]⟩ : ByteArray), .string (⟨#[]⟩ : ByteArray), .slice none 0 0]) ?_ 3 _ rfl; (with_reducible repeat (first | refine blk_drewN ?_ _ | refine blk_drew ?_ | refine blk_alloc ?_ _)); refine blk_put (cs := #[.string ((rd_T43 l0_5 x9_1).f0), .int .i64 ((rd_T43 l0_5 x9_1).f1.f0), .int .i64 0, .string (⟨#[]⟩ : ByteArray), .string (⟨#[]⟩ : ByteArray), .slice none 0 0]) ?_ 2 _ rfl; (with_reducible repeat (first | refine blk_drewN ?_ _ | refine blk_drew ?_ | refine blk_alloc ?_ _)); refine blk_put (cs := #[.string ((rd_T43 l0_5 x9_1).f0), .int .i64 0, .int .i64 0, .string (⟨#[]⟩ : ByteArray), .string (⟨#[]⟩ : ByteArray), .slice none 0 0]) ?_ 1 _ rfl; (with_reducible repeat (first | refine blk_drewN ?_ _ | refine blk_drew ?_ | refine blk_alloc ?_ _)); refine blk_put (cs := #[.string (⟨#[]⟩ : ByteArray), .int .i64 0, .int .i64 0, .string (⟨#[]⟩ : ByteArray), .string (⟨#[]⟩ : ByteArray), .slice none 0 0]) ?_ 0 _ rfl; (with_reducible repeat (first | refine blk_drewN ?_ _ | refine blk_drew ?_ | refine blk_alloc ?_ _)); exact BK112.out) hb); have n2_ := Aside0.mk (below_step (by repeat (first | (with_reducible first | exact HB.out | apply below_alloc | apply pw_below_drewN | apply below_drew1 | refine below_set ?_ GE110.out | refine below_set ?_ GE112.out) | exact HB.out)) hb); clear BK110; clear BK112; clear HB; have BK110 := n0_; have BK112 := n1_; have HB := n2_; clear n0_ n1_ n2_; (try clear hb); (try clear hb2); (try clear hk); (try clear hi)))
            go_roundg k1
            case measure => have := HK1.out; omega
            case rel => exact ⟨(ji8), (wrap64 (x9_1 + 1)), (by first | rfl | (simp; done) | (simp only [← hji8] <;> (first | rfl | simp)) | (simp [*]; done)), (by first | rfl | (simp; done) | (simp [*]; done)), H', ⟨by have := HK1.out; omega⟩, ⟨by (with_reducible repeat (first | refine blk_drewN ?_ _ | refine blk_drew ?_ | refine blk_alloc ?_ _)); exact BK110.out⟩, ⟨by repeat (first | (with_reducible first | exact HB.out | apply below_alloc | apply pw_below_drewN | apply below_drew1 | refine below_set ?_ GE110.out | refine below_set ?_ GE112.out) | exact HB.out)⟩⟩
          · rw [if_neg c6] at H
            exact absurd H (by simp)
        · rw [if_neg c5] at H
          exact absurd H (by simp)
      · rw [if_neg c4] at H
        have c4b0 : decide (x9_1 < (l0_5.length : Int)) = false := decide_eq_false c4
        clear c4
        obtain rfl := Option.some.inj H
        go_wp2
        go_ret
        exact ⟨by first | rfl | (simp [errW_none, errW_some] <;> rfl) | (simp [*, errW_none, errW_some] <;> rfl), by repeat (first | (with_reducible first | exact HB.out | apply below_alloc | apply pw_below_drewN | apply below_drew1 | refine below_set ?_ GE110.out) | exact HB.out)⟩
end Go.Proofs.YtcgdncpioafbdaaGreatDoor.Q
/- The parser: take, must, name, op. -/
namespace Go.Proofs.YtcgdncpioafbdaaGreatDoor.Q
open Go Go.RowKit Go.Proofs.YtcgdncpioafbdaaGreatDoorW.PrintWords
theorem PS.alloc {w0 w : World} {g : Nat} {ts : List S32} (h : PS w0 g ts w) (o : Obj) : PS w0 g ts (w.alloc o) := h.below (below_alloc (Below.refl _ _) o)
theorem PS.drewN {w0 w : World} {g : Nat} {ts : List S32} (h : PS w0 g ts w) (n : Nat) : PS w0 g ts (w.drewN n) := h.below (pw_below_drewN (Below.refl _ _) n)
theorem Gr.alloc {g : Nat} {w w1 : World} (h : Gr g w w1) (o : Obj) : Gr g w (w1.alloc o) := h.trans (Gr.of_below (below_alloc (Below.refl _ _) o))
theorem Gr.drewN {g : Nat} {w w1 : World} (h : Gr g w w1) (n : Nat) : Gr g w (w1.drewN n) := h.trans (Gr.of_below (pw_below_drewN (Below.refl _ _) n))
theorem Gr.step {g : Nat} {w w1 w2 : World} (h : Gr g w w1) (hb : Below w1.heap.size w1 w2) : Gr g w w2 := h.trans (Gr.of_below hb)
theorem Gr.cell {g : Nat} {w w1 : World} (h : Gr g w w1) {p : Addr} (hp : p.block < w.heap.size) (hg : p.block ≠ g) : w1.cell? p = w.cell? p := by simp [World.cell?, h.block _ hp hg]
theorem Gr.F {α : Type} {d : Kd α} {g : Nat} {w w1 : World} {ok : Nat → Prop} {A : Option Addr} {n : Nat} {xs : List α} (h : Gr g w w1) (hf : Kd.F d w ok A n xs) (hok : ∀ k, ok k → k ≠ g) : Kd.F d w1 ok A n xs := Kd.F_step hf (fun k hk hlt => h.block k hlt (hok k hk))
/-- What a method of the parser does: it gives up, or hands something back and goes on. -/
def Out {α : Type} (w0 : World) (g : Nat) (V : World → α → Value → Prop) (w : World) (m : Option (α × List S32)) (e : Ending) (w' : World) : Prop :=
  Gr g w w' ∧ match m with
    | none => e = .panicked failedV
    | some (x, r) => ∃ v, e = .returned v ∧ V w' x v ∧ PS w0 g r w'
theorem Out.none {α : Type} {w0 w w' : World} {g : Nat} {V : World → α → Value → Prop} {m : Option (α × List S32)} {e : Ending} (h : Out w0 g V w m e w') (hm : m = none) : Gr g w w' ∧ e = .panicked failedV := by subst hm; exact h
theorem Out.some {α : Type} {w0 w w' : World} {g : Nat} {V : World → α → Value → Prop} {m : Option (α × List S32)} {e : Ending} {x : α} {r : List S32} (h : Out w0 g V w m e w') (hm : m = some (x, r)) : Gr g w w' ∧ ∃ v, e = .returned v ∧ V w' x v ∧ PS w0 g r w' := by subst hm; exact h
theorem Out.of_none {α : Type} {w0 w w' : World} {g : Nat} {V : World → α → Value → Prop} {m : Option (α × List S32)} (hm : m = Option.none) (h : Gr g w w') : Out w0 g V w m (.panicked failedV) w' := by subst hm; exact ⟨h, rfl⟩
theorem Out.of_some {α : Type} {w0 w w' : World} {g : Nat} {V : World → α → Value → Prop} {m : Option (α × List S32)} {x : α} {r : List S32} {v : Value} (hm : m = Option.some (x, r)) (h : Gr g w w') (hv : V w' x v) (hp : PS w0 g r w') : Out w0 g V w m (.returned v) w' := by subst hm; exact ⟨h, v, rfl, hv, hp⟩
def Vbool : World → Bool → Value → Prop := fun _ b v => v = .bool b
def Vstr : World → ByteArray → Value → Prop := fun _ s v => v = .string s
def Vtok : World → S32 → Value → Prop := fun _ t v => v = .agg #[.int .i64 t.f0, .string t.f1, .int .i64 t.f2]
theorem next_out {w0 w : World} {g : Nat} {ts : List S32} (h : PS w0 g ts w) : Calls Tryz.prog 258 #[.pointer (some ⟨g, 0, none⟩)] w (Out w0 g Vtok w (Ps.nx ts)) := by
  refine (next_calls h).mono ?_
  rintro e w' ⟨hg, hm⟩
  cases hn : Ps.nx ts with
  | none => rw [hn] at hm; exact ⟨hg, hm⟩
  | some p => rw [hn] at hm; exact ⟨hg, _, hm.1, rfl, hm.2⟩
set_option maxRecDepth 100000 in
theorem take_out {w0 w : World} {g : Nat} {ts : List S32} (h : PS w0 g ts w) (s : ByteArray) : Calls Tryz.prog 271 #[.pointer (some ⟨g, 0, none⟩), .string s] w (Out w0 g Vbool w (Ps.tk s ts)) := by
  have HP := Aside0.mk h
  clear h
  by_cases c : (Ps.pk ts).toList = s.toList
  · have c0 : ((Ps.pk ts).toList == s.toList) = true := beq_iff_eq.mpr c
    have c1 : ((Ps.pk ts).toList != s.toList) = false := bne_eq_false_iff_eq.mpr c
    have hm : Ps.tk s ts = (Ps.nx ts).map fun p => (true, p.2) := by unfold Ps.tk; rw [if_pos c]
    clear c
    have HM := Aside0.mk hm
    clear hm
    cases hn : Ps.nx ts with
    | none =>
      have HN := Aside0.mk hn
      clear hn
      go_enter Tryz.func271, Tryz.ntmps271
      go_wp2_with (first | (go_at_call 327; refine (peek_calls HP.out).mono ?_; rintro e w1 ⟨rfl, hb⟩; have HB := Aside0.mk hb; clear hb) | (go_at_call 258; refine (next_out (HP.out.below HB.out)).mono ?_; intro e w2 ho; obtain ⟨hg, rfl⟩ := ho.none HN.out; have HG := Aside0.mk hg; clear hg ho))
      exact ⟨rfl, Out.of_none (by rw [HM.out, HN.out]; rfl) ((Gr.of_below HB.out).trans HG.out)⟩
    | some p =>
      obtain ⟨t, r⟩ := p
      have HN := Aside0.mk hn
      clear hn
      go_enter Tryz.func271, Tryz.ntmps271
      go_wp2_with (first | (go_at_call 327; refine (peek_calls HP.out).mono ?_; rintro e w1 ⟨rfl, hb⟩; have HB := Aside0.mk hb; clear hb) | (go_at_call 258; refine (next_out (HP.out.below HB.out)).mono ?_; intro e w2 ho; obtain ⟨hg, v, rfl, hv, hp⟩ := ho.some HN.out; have HG := Aside0.mk hg; have HQ := Aside0.mk hp; clear hg ho hp hv))
      go_ret
      exact Out.of_some (by rw [HM.out, HN.out]; rfl) ((Gr.of_below HB.out).trans HG.out) rfl HQ.out
  · have c0 : ((Ps.pk ts).toList == s.toList) = false := beq_eq_false_iff_ne.mpr c
    have c1 : ((Ps.pk ts).toList != s.toList) = true := bne_iff_ne.mpr c
    have hm : Ps.tk s ts = some (false, ts) := by unfold Ps.tk; rw [if_neg c]
    clear c
    have HM := Aside0.mk hm
    clear hm
    go_enter Tryz.func271, Tryz.ntmps271
    go_wp2_with (first | (go_at_call 327; refine (peek_calls HP.out).mono ?_; rintro e w1 ⟨rfl, hb⟩; have HB := Aside0.mk hb; clear hb))
    go_ret
    exact Out.of_some HM.out (Gr.of_below HB.out) rfl (HP.out.below HB.out)
def Vunit : World → Unit → Value → Prop := fun _ _ v => v = .tuple #[]
theorem ms_true {s : ByteArray} {l : List ByteArray} {ts r : List S32} (h : Ps.tk s ts = some (true, r)) : Ps.ms (s :: l) ts = Ps.ms l r := by simp only [Ps.ms, h]
theorem ms_false {s : ByteArray} {l : List ByteArray} {ts r : List S32} (h : Ps.tk s ts = some (false, r)) : Ps.ms (s :: l) ts = none := by simp only [Ps.ms, h]
theorem ms_none {s : ByteArray} {l : List ByteArray} {ts : List S32} (h : Ps.tk s ts = none) : Ps.ms (s :: l) ts = none := by simp only [Ps.ms, h]
theorem wrapS {i n : Nat} (h : i < n) (hn : n ≤ 9223372036854775807) : wrap64 ((i : Int) + 1) = ((i + 1 : Nat) : Int) := by unfold wrap64; omega
set_option maxHeartbeats 1000000 in
set_option maxRecDepth 100000 in
theorem must_out {w0 w : World} {g : Nat} {ts : List S32} (h : PS w0 g ts w) {l : List ByteArray} {A : Option Addr} {c : Nat} (hF : Kd.F Kd.string w (fun k => k ≠ g) A l.length l) :
    Calls Tryz.prog 259 #[.pointer (some ⟨g, 0, none⟩), .slice A l.length c] w (Out w0 g Vunit w ((Ps.ms l ts).map fun r => ((), r))) := by
  have HP := Aside0.mk h
  have HF := Aside0.mk hF
  have HX := Aside0.mk (Kd.F_max hF)
  clear h hF
  go_enter Tryz.func259, Tryz.ntmps259
  go_wp2
  go_loopg [8] l.length (fun kq v8 w' => ∃ (i : Nat) (ts' : List S32), v8 = .int .i64 i ∧ Aside0 (kq = l.length - i) ∧ Aside0 (i ≤ l.length) ∧ Aside0 (Ps.ms (l.drop i) ts' = Ps.ms l ts) ∧ Aside0 (PS w0 g ts' w') ∧ Aside0 (Gr g w w') ∧ Aside0 (Kd.F Kd.string w' (fun k => k ≠ g) A l.length l))
  case atStart => exact ⟨0, ts, rfl, ⟨by omega⟩, ⟨by omega⟩, ⟨rfl⟩, HP, ⟨Gr.refl _ _⟩, HF⟩
  case round =>
    clear HP HF
    obtain ⟨i, ts', rfl, HK, HI, HM, HP, HG, HF⟩ := hrel
    by_cases hi : i < l.length
    · have c0 : decide ((i : Int) < (l.length : Int)) = true := decide_eq_true (by omega)
      have c1 : decide (i < l.length) = true := decide_eq_true hi
      obtain ⟨ad, e1, hx⟩ := Kd.at_string (Kd.F_now HF.out) (i : Int) (by omega) (by omega)
      cases e1
      simp only [Int.toNat_natCast] at hx
      have hd : l.drop i = (rdOf ByteArray.empty l (i : Int)) :: l.drop (i + 1) := by
        rw [List.drop_eq_getElem_cons hi]
        congr 1
        simp [rdOf, List.getD_eq_getElem?_getD, hi]
      have HD := Aside0.mk hd
      have HI2 := Aside0.mk hi
      obtain ⟨s, hs⟩ : ∃ s, rdOf ByteArray.empty l (i : Int) = s := ⟨_, rfl⟩
      rw [hs] at hx
      clear hd
      have HS := Aside0.mk hs
      clear hs
      have HF2 := fun w2 (hg : Gr g wr w2) => hg.F HF.out (fun _ h => h)
      have HF3 := Aside0.mk HF2
      clear HF2
      cases ht : Ps.tk s ts' with
      | none =>
        have HT := Aside0.mk ht
        clear ht
        go_wp2_with (first | (go_at_call 271; refine (take_out HP.out s).mono ?_; intro e w2 ho; obtain ⟨hg, rfl⟩ := ho.none HT.out; have HQ := Aside0.mk hg; clear hg ho))
        exact ⟨rfl, Out.of_none (by rw [← HM.out, HD.out, HS.out, ms_none HT.out]; rfl) (HG.out.trans HQ.out)⟩
      | some p =>
        obtain ⟨b, r⟩ := p
        have HT := Aside0.mk ht
        clear ht
        cases b with
        | false =>
          go_wp2_with (first | (go_at_call 271; refine (take_out HP.out s).mono ?_; intro e w2 ho; obtain ⟨hg, v, rfl, rfl, hp⟩ := ho.some HT.out; have HQ := Aside0.mk hg; clear hg ho hp) | (go_at_call 264; refine (fail_calls g _).mono ?_; rintro e w3 ⟨rfl, rfl⟩))
          exact ⟨rfl, Out.of_none (by rw [← HM.out, HD.out, HS.out, ms_false HT.out]; rfl) (HG.out.trans HQ.out)⟩
        | true =>
          go_wp2_with (first | (go_at_call 271; refine (take_out HP.out s).mono ?_; intro e w2 ho; obtain ⟨hg, v, rfl, rfl, hp⟩ := ho.some HT.out; have HQ := Aside0.mk hg; have HR := Aside0.mk hp; clear hg ho hp))
          go_roundg (l.length - (i + 1))
          case measure => have := HK.out; omega
          case rel => exact ⟨i + 1, r, by rw [wrapS hi HX.out], ⟨rfl⟩, ⟨by omega⟩, ⟨by rw [← HM.out, HD.out, HS.out, ms_true HT.out]⟩, HR, ⟨HG.out.trans HQ.out⟩, ⟨HF3.out _ HQ.out⟩⟩
    · have c0 : decide ((i : Int) < (l.length : Int)) = false := decide_eq_false (by omega)
      have c1 : decide (i < l.length) = false := decide_eq_false hi
      have hd : l.drop i = [] := List.drop_of_length_le (by omega)
      have HD := Aside0.mk hd
      clear hi hd
      go_wp2
      refine bodyPost_ret (v := .tuple #[]) ?_ rfl ?_
      · simp [results, Tryz.results259, go_sem]
      · refine Out.of_some (by rw [← HM.out, HD.out]; rfl) HG.out rfl HP.out
theorem ite_beq {a b : List UInt8} {x : Option Bool} {y : Bool} (h : x = some y) : (if a = b then some true else x) = some ((a == b) || y) := by
  by_cases c : a = b
  · rw [if_pos c, beq_iff_eq.mpr c]; rfl
  · rw [if_neg c, beq_eq_false_iff_ne.mpr c, h]; rfl
theorem reserved_is (s : ByteArray) : parse_reserved.f s = some (Ps.reserved s) := by
  unfold parse_reserved.f Ps.reserved Ps.resL
  simp only [List.contains_cons, List.contains_nil]
  repeat refine ite_beq ?_
  rfl
theorem binds_is (s : ByteArray) : parse_binds.f 3 s = some (Ps.binds s) := by
  by_cases h0 : s.toList = [111, 114]
  · unfold parse_binds.f Ps.binds
    simp only [parse_binds.j0, parse_binds.j1]
    rw [h0]
    decide
  by_cases h1 : s.toList = [97, 110, 100]
  · unfold parse_binds.f Ps.binds
    simp only [parse_binds.j0, parse_binds.j1]
    rw [h1]
    decide
  by_cases h2 : s.toList = [61]
  · unfold parse_binds.f Ps.binds
    simp only [parse_binds.j0, parse_binds.j1]
    rw [h2]
    decide
  by_cases h3 : s.toList = [60, 62]
  · unfold parse_binds.f Ps.binds
    simp only [parse_binds.j0, parse_binds.j1]
    rw [h3]
    decide
  by_cases h4 : s.toList = [60]
  · unfold parse_binds.f Ps.binds
    simp only [parse_binds.j0, parse_binds.j1]
    rw [h4]
    decide
  by_cases h5 : s.toList = [60, 61]
  · unfold parse_binds.f Ps.binds
    simp only [parse_binds.j0, parse_binds.j1]
    rw [h5]
    decide
  by_cases h6 : s.toList = [62]
  · unfold parse_binds.f Ps.binds
    simp only [parse_binds.j0, parse_binds.j1]
    rw [h6]
    decide
  by_cases h7 : s.toList = [62, 61]
  · unfold parse_binds.f Ps.binds
    simp only [parse_binds.j0, parse_binds.j1]
    rw [h7]
    decide
  by_cases h8 : s.toList = [105, 115]
  · unfold parse_binds.f Ps.binds
    simp only [parse_binds.j0, parse_binds.j1]
    rw [h8]
    decide
  by_cases h9 : s.toList = [43]
  · unfold parse_binds.f Ps.binds
    simp only [parse_binds.j0, parse_binds.j1]
    rw [h9]
    decide
  by_cases h10 : s.toList = [45]
  · unfold parse_binds.f Ps.binds
    simp only [parse_binds.j0, parse_binds.j1]
    rw [h10]
    decide
  by_cases h11 : s.toList = [124, 124]
  · unfold parse_binds.f Ps.binds
    simp only [parse_binds.j0, parse_binds.j1]
    rw [h11]
    decide
  by_cases h12 : s.toList = [42]
  · unfold parse_binds.f Ps.binds
    simp only [parse_binds.j0, parse_binds.j1]
    rw [h12]
    decide
  by_cases h13 : s.toList = [47]
  · unfold parse_binds.f Ps.binds
    simp only [parse_binds.j0, parse_binds.j1]
    rw [h13]
    decide
  by_cases h14 : s.toList = [37]
  · unfold parse_binds.f Ps.binds
    simp only [parse_binds.j0, parse_binds.j1]
    rw [h14]
    decide
  unfold parse_binds.f Ps.binds
  simp [parse_binds.j0, parse_binds.j1, h0, h1, h2, h3, h4, h5, h6, h7, h8, h9, h10, h11, h12, h13, h14]
set_option maxHeartbeats 1000000 in
set_option maxRecDepth 100000 in
theorem name_out {w0 w : World} {g : Nat} {ts : List S32} (h : PS w0 g ts w) : Calls Tryz.prog 260 #[.pointer (some ⟨g, 0, none⟩)] w (Out w0 g Vstr w (Ps.nm ts)) := by
  have HP := Aside0.mk h
  clear h
  cases hn : Ps.nx ts with
  | none =>
    have HN := Aside0.mk hn
    have HM := Aside0.mk (show Ps.nm ts = none by unfold Ps.nm; rw [hn])
    clear hn
    go_enter Tryz.func260, Tryz.ntmps260
    go_wp2_with (first | (go_at_call 258; refine (next_out HP.out).mono ?_; intro e w2 ho; obtain ⟨hg, rfl⟩ := ho.none HN.out; have HG := Aside0.mk hg; clear hg ho))
    exact ⟨rfl, Out.of_none HM.out HG.out⟩
  | some p =>
    obtain ⟨t, r⟩ := p
    have HN := Aside0.mk hn
    have hm : Ps.nm ts = if t.f0 = 1 then if Ps.reserved t.f1 = true then none else some (t.f1, r) else none := by unfold Ps.nm; rw [hn]
    clear hn
    by_cases k1 : t.f0 = 1
    · rw [if_pos k1] at hm
      have b1 : (t.f0 != 1) = false := bne_eq_false_iff_eq.mpr k1
      have RS := Aside0.mk (reserved_is t.f1)
      cases hr : Ps.reserved t.f1 with
      | true =>
        rw [hr] at hm RS
        rw [if_pos rfl] at hm
        have HM := Aside0.mk hm
        clear hm hr
        go_enter Tryz.func260, Tryz.ntmps260
        go_wp2_with (first | (go_at_call 258; refine (next_out HP.out).mono ?_; intro e w2 ho; obtain ⟨hg, v, rfl, rfl, hp⟩ := ho.some HN.out; have HG := Aside0.mk hg; have HQ := Aside0.mk hp; clear hg ho hp) | (go_at_call 324; refine (parse_reserved.calls _ _ _ RS.out).mono ?_; rintro e w3 ⟨rfl, ⟨n, rfl⟩⟩) | (go_at_call 264; refine (fail_calls g _).mono ?_; rintro e w3 ⟨rfl, rfl⟩))
        exact ⟨rfl, Out.of_none HM.out ((HG.out.alloc _).drewN _)⟩
      | false =>
        rw [hr] at hm RS
        rw [if_neg (by simp)] at hm
        have HM := Aside0.mk hm
        clear hm hr
        go_enter Tryz.func260, Tryz.ntmps260
        go_wp2_with (first | (go_at_call 258; refine (next_out HP.out).mono ?_; intro e w2 ho; obtain ⟨hg, v, rfl, rfl, hp⟩ := ho.some HN.out; have HG := Aside0.mk hg; have HQ := Aside0.mk hp; clear hg ho hp) | (go_at_call 324; refine (parse_reserved.calls _ _ _ RS.out).mono ?_; rintro e w3 ⟨rfl, ⟨n, rfl⟩⟩))
        go_ret
        exact Out.of_some HM.out ((HG.out.alloc _).drewN _) rfl ((HQ.out.alloc _).drewN _)
    · rw [if_neg k1] at hm
      have b1 : (t.f0 != 1) = true := bne_iff_ne.mpr k1
      have HM := Aside0.mk hm
      clear hm
      go_enter Tryz.func260, Tryz.ntmps260
      go_wp2_with (first | (go_at_call 258; refine (next_out HP.out).mono ?_; intro e w2 ho; obtain ⟨hg, v, rfl, rfl, hp⟩ := ho.some HN.out; have HG := Aside0.mk hg; have HQ := Aside0.mk hp; clear hg ho hp) | (go_at_call 264; refine (fail_calls g _).mono ?_; rintro e w3 ⟨rfl, rfl⟩))
      exact ⟨rfl, Out.of_none HM.out (HG.out.alloc _)⟩
end Go.Proofs.YtcgdncpioafbdaaGreatDoor.Q
/- The parser's words as lists of bytes. -/
namespace Go.Proofs.YtcgdncpioafbdaaGreatDoor.Q
open Go
theorem wNot : Ps.sNot.toList = [110, 111, 116] := (Lib.toList_data _).trans rfl
theorem wIs : Ps.sIs.toList = [105, 115] := (Lib.toList_data _).trans rfl
theorem wNull : Ps.sNull.toList = [110, 117, 108, 108] := (Lib.toList_data _).trans rfl
theorem wMinus : Ps.sMinus.toList = [45] := (Lib.toList_data _).trans rfl
theorem wOpen : Ps.sOpen.toList = [40] := (Lib.toList_data _).trans rfl
theorem wCount : Ps.sCount.toList = [99, 111, 117, 110, 116] := (Lib.toList_data _).trans rfl
theorem wSum : Ps.sSum.toList = [115, 117, 109] := (Lib.toList_data _).trans rfl
theorem wMin : Ps.sMin.toList = [109, 105, 110] := (Lib.toList_data _).trans rfl
theorem wMax : Ps.sMax.toList = [109, 97, 120] := (Lib.toList_data _).trans rfl
theorem wCreate : Ps.sCreate.toList = [99, 114, 101, 97, 116, 101] := (Lib.toList_data _).trans rfl
theorem wDrop : Ps.sDrop.toList = [100, 114, 111, 112] := (Lib.toList_data _).trans rfl
theorem wInsert : Ps.sInsert.toList = [105, 110, 115, 101, 114, 116] := (Lib.toList_data _).trans rfl
theorem wSelect : Ps.sSelect.toList = [115, 101, 108, 101, 99, 116] := (Lib.toList_data _).trans rfl
theorem wUpdate : Ps.sUpdate.toList = [117, 112, 100, 97, 116, 101] := (Lib.toList_data _).trans rfl
theorem wDelete : Ps.sDelete.toList = [100, 101, 108, 101, 116, 101] := (Lib.toList_data _).trans rfl
end Go.Proofs.YtcgdncpioafbdaaGreatDoor.Q
/- The parser: op and val; how an expression is handed on. -/
namespace Go.Proofs.YtcgdncpioafbdaaGreatDoor.Q
open Go Go.RowKit Go.Proofs.YtcgdncpioafbdaaGreatDoorW.PrintWords
/-- An expression's cells. -/
def cells43 (x : S43) (A : Option Addr) (c : Nat) : List Value := [.string x.f0, .int .i64 x.f1.f0, .int .i64 x.f1.f1, .string x.f1.f2, .string x.f2, .slice A x.f3.length c]
/-- An expression that was handed back: all that it leads to is of block B or later. -/
def Vex (B : Nat) : World → S43 → Value → Prop := fun w x v => ∃ A c, v = .agg (cells43 x A c).toArray ∧ x.f3.length ≤ c ∧ Kd.F k43 w (fun k => B ≤ k) A x.f3.length x.f3
theorem FK43 {w : World} {ok : Nat → Prop} {x : S43} {A : Option Addr} {c : Nat} (h : x.f3.length ≤ c) (hF : Kd.F k43 w ok A x.f3.length x.f3) : Kd.FK k43 w ok x (cells43 x A c) := k43_mkF w ok x h hF
theorem F_of_cells {α : Type} {d : Kd α} {w : World} {ok : Nat → Prop} {g e : Nat} {fr : Nat × Nat} {xs : List α} {css : List (List Value)} (hb : w.heap[g]? = some (.cells css.flatten.toArray e fr)) (hfr : fr = (0, 0)) (hg : ok g) (hl : css.length = xs.length) (hn : xs.length ≤ 1000)
    (hx : ∀ (j : Nat) (x : α) (c : List Value), xs[j]? = some x → css[j]? = some c → Kd.FK d w ok x c) (hs : ∀ (j i : Nat), (i < d.sz) → ∀ c : List Value, css[j]? = some c → css.flatten[j * d.sz + i]? = c[i]?) : Kd.F d w ok (some ⟨g, 0, none⟩) xs.length xs := by
  subst hfr
  intro W' hW
  refine ⟨rfl, by omega, fun _ => ⟨_, rfl, fun j p hj => ?_⟩⟩
  have hjl : j < css.length := by have := (List.getElem?_eq_some_iff.1 hj).1; omega
  have hc := List.getElem?_eq_getElem hjl
  have hK := hx j p _ hj hc
  have hlen : (css[j]).length = d.sz := d.K_len (Kd.FK_now hK)
  refine ⟨css[j], hlen, hK W' hW, fun i u hu => ?_⟩
  have hi : i < d.sz := by have := (List.getElem?_eq_some_iff.1 hu).1; omega
  rw [add_plain]
  have hb' : W'.heap[g]? = some (.cells css.flatten.toArray e (0, 0)) := (hW g hg (blk_lt hb)).trans hb
  rw [blk_cell hb', List.getElem?_toArray, hs j i hi _ hc]
  exact hu
theorem F_one {w : World} {ok : Nat → Prop} {g : Nat} {x : S43} {A : Option Addr} {c : Nat} (hb : w.heap[g]? = some (.cells (cells43 x A c).toArray 43 (0, 0))) (hg : ok g) (hc : x.f3.length ≤ c) (hF : Kd.F k43 w ok A x.f3.length x.f3) : Kd.F k43 w ok (some ⟨g, 0, none⟩) [x].length [x] := by
  refine F_of_cells (css := [cells43 x A c]) (fr := (0, 0)) (by simpa using hb) rfl hg rfl (by simp) ?_ ?_
  · intro j y d hy hd
    match j, hy, hd with
    | 0, hy, hd => simp at hy hd; subst hy; subst hd; exact FK43 hc hF
  · intro j i hi d hd
    match j, hd with
    | 0, hd => simp at hd; subst hd; simp
theorem F_two {w : World} {ok : Nat → Prop} {g : Nat} {x y : S43} {A A' : Option Addr} {c c' : Nat} (hb : w.heap[g]? = some (.cells (cells43 x A c ++ cells43 y A' c').toArray 43 (0, 0))) (hg : ok g) (hc : x.f3.length ≤ c) (hF : Kd.F k43 w ok A x.f3.length x.f3) (hc' : y.f3.length ≤ c') (hF' : Kd.F k43 w ok A' y.f3.length y.f3) : Kd.F k43 w ok (some ⟨g, 0, none⟩) [x, y].length [x, y] := by
  refine F_of_cells (css := [cells43 x A c, cells43 y A' c']) (fr := (0, 0)) (by simpa using hb) rfl hg rfl (by simp) ?_ ?_
  · intro j z d hz hd
    match j, hz, hd with
    | 0, hz, hd => simp at hz hd; subst hz; subst hd; exact FK43 hc hF
    | 1, hz, hd => simp at hz hd; subst hz; subst hd; exact FK43 hc' hF'
  · intro j i hi d hd
    have h6 : k43.sz = 6 := rfl
    rw [h6] at hi ⊢
    match j, hd with
    | 0, hd =>
      simp at hd; subst hd
      simp only [List.flatten_cons, List.flatten_nil, List.append_nil, Nat.zero_mul, Nat.zero_add]
      rw [List.getElem?_append_left (by simpa [cells43] using hi)]
    | 1, hd =>
      simp at hd; subst hd
      simp only [List.flatten_cons, List.flatten_nil, List.append_nil, Nat.one_mul]
      rw [List.getElem?_append_right (by simp [cells43])]
      simp [cells43]
theorem op_calls (s : ByteArray) (A : Option Addr) (n c : Nat) (w : World) : Calls Tryz.prog 369 #[.string s, .slice A n c] w fun e w' => e = .returned (.agg #[.string s, .int .i64 0, .int .i64 0, .string ⟨#[]⟩, .string ⟨#[]⟩, .slice A n c]) ∧ ∃ o, w' = w.alloc o := by
  go_enter Tryz.func369, Tryz.ntmps369
  go_wp2
  refine bodyPost_ret (v := .agg #[.string s, .int .i64 0, .int .i64 0, .string ⟨#[]⟩, .string ⟨#[]⟩, .slice A n c]) ?_ rfl ⟨rfl, _, rfl⟩
  simp [results, Tryz.results369, go_sem]
theorem val_calls (k n : Int) (s : ByteArray) (w : World) : Calls Tryz.prog 370 #[.agg #[.int .i64 k, .int .i64 n, .string s]] w fun e w' => e = .returned (.agg #[.string Ps.sVal, .int .i64 k, .int .i64 n, .string s, .string ⟨#[]⟩, .slice none 0 0]) ∧ ∃ o o', w' = (w.alloc o).alloc o' := by
  go_enter Tryz.func370, Tryz.ntmps370
  go_wp2
  refine bodyPost_ret (v := .agg #[.string Ps.sVal, .int .i64 k, .int .i64 n, .string s, .string ⟨#[]⟩, .slice none 0 0]) ?_ rfl ⟨rfl, _, _, rfl⟩
  simp [results, Tryz.results370, go_sem]
theorem new_blk {W : World} {b : Nat} (o : Obj) (h : W.heap.size = b) : (W.alloc o).heap[b]? = some o := by subst h; show (W.heap.push o)[W.heap.size]? = some o; simp
theorem blk_put6 {w : World} {g : Nat} {a0 a1 a2 a3 a4 a5 v0 v1 v2 v3 v4 v5 : Value} (h : w.heap[g]? = some (.cells #[a0, a1, a2, a3, a4, a5] 43 (0, 0))) :
    ((((((w.setCell ⟨g, 0, none⟩ v0).setCell ⟨g, 1, none⟩ v1).setCell ⟨g, 2, none⟩ v2).setCell ⟨g, 3, none⟩ v3).setCell ⟨g, 4, none⟩ v4).setCell ⟨g, 5, none⟩ v5).heap[g]? = some (.cells #[v0, v1, v2, v3, v4, v5] 43 (0, 0)) :=
  blk_put (blk_put (blk_put (blk_put (blk_put (blk_put h 0 v0 rfl) 1 v1 rfl) 2 v2 rfl) 3 v3 rfl) 4 v4 rfl) 5 v5 rfl
theorem flat_one {α β : Type} (f : α → β) (l : List α) : (l.map fun s => [f s]).flatten = l.map f := by
  induction l with
  | nil => rfl
  | cons a l ih => simp [List.flatten_cons, ih]
theorem F_strs {w : World} {ok : Nat → Prop} {g : Nat} {l : List ByteArray} (hb : w.heap[g]? = some (.cells (l.map Value.string).toArray 9 (0, 0))) (hg : ok g) (hn : l.length ≤ 1000) : Kd.F Kd.string w ok (some ⟨g, 0, none⟩) l.length l := by
  refine F_of_cells (css := l.map fun s => [Value.string s]) (e := 9) (fr := (0, 0)) (by rw [flat_one]; exact hb) rfl hg (by simp) hn ?_ ?_
  · intro j x c hx hc
    simp only [List.getElem?_map, hx, Option.map_some, Option.some.injEq] at hc
    subst hc
    exact fun W' _ => rfl
  · intro j i hi c hc
    have h1 : Kd.string.sz = 1 := rfl
    rw [h1] at hi ⊢
    obtain rfl : i = 0 := by omega
    rw [flat_one]
    simp only [List.getElem?_map] at hc ⊢
    cases hl : l[j]? with
    | none => rw [hl] at hc; cases hc
    | some y => rw [hl] at hc; cases hc; simp [hl]
theorem must1 {w0 w : World} {g B : Nat} {ts : List S32} (h : PS w0 g ts w) (hB : w.heap.size = B) (a : ByteArray) (c : Nat) : Calls Tryz.prog 259 #[.pointer (some ⟨g, 0, none⟩), .slice (some ⟨B, 0, none⟩) 1 c] (w.alloc (.cells #[.string a] 9)) (Out w0 g Vunit w ((Ps.ms [a] ts).map fun r => ((), r))) := by
  subst hB
  have hF : Kd.F Kd.string (w.alloc (.cells #[.string a] 9)) (fun k => k ≠ g) (some ⟨w.heap.size, 0, none⟩) [a].length [a] := F_strs (new_blk _ rfl) (by have := h.lt; omega) (by simp)
  refine (must_out (h.alloc _) (c := c) hF).mono ?_
  rintro e w' ⟨hg, hm⟩
  exact ⟨((Gr.refl g w).alloc _).trans hg, hm⟩
theorem must3 {w0 w : World} {g B : Nat} {ts : List S32} (h : PS w0 g ts w) (hB : w.heap.size = B) (a b d : ByteArray) (c : Nat) : Calls Tryz.prog 259 #[.pointer (some ⟨g, 0, none⟩), .slice (some ⟨B, 0, none⟩) 3 c] (w.alloc (.cells #[.string a, .string b, .string d] 9)) (Out w0 g Vunit w ((Ps.ms [a, b, d] ts).map fun r => ((), r))) := by
  subst hB
  have hF : Kd.F Kd.string (w.alloc (.cells #[.string a, .string b, .string d] 9)) (fun k => k ≠ g) (some ⟨w.heap.size, 0, none⟩) [a, b, d].length [a, b, d] := F_strs (new_blk _ rfl) (by have := h.lt; omega) (by simp)
  refine (must_out (h.alloc _) (c := c) hF).mono ?_
  rintro e w' ⟨hg, hm⟩
  exact ⟨((Gr.refl g w).alloc _).trans hg, hm⟩
theorem msU_none {l : List ByteArray} {ts : List S32} (h : Ps.ms l ts = none) : ((Ps.ms l ts).map fun r => ((), r)) = none := by rw [h]; rfl
theorem msU_some {l : List ByteArray} {ts r : List S32} (h : Ps.ms l ts = some r) : ((Ps.ms l ts).map fun r => ((), r)) = some ((), r) := by rw [h]; rfl
theorem binds_range (s : ByteArray) : 0 ≤ Ps.binds s ∧ Ps.binds s ≤ 6 := by
  unfold Ps.binds
  repeat' split
  all_goals omega
theorem blkc_alloc {w : World} {g : Nat} {cs : Array Value} {t : TypeId} {v : Value} {o : Obj} (h : w.heap[g]? = some (.cells cs t (0, 0))) (i : Nat) (hv : cs[i]? = some v) : (w.alloc o).cell? ⟨g, i, none⟩ = some v := (blk_cell (blk_alloc h o) i).trans hv
open Go.Proofs.YtcgdncpioafbdaaGreatDoorW.PrintLast in
/-- A call that gives up, in a region that draws its order. -/
theorem goesP_ {P : Program} {ops : Array Oper} {Q : Exit → Act → World → Prop} {oi : Oper} {N : Option Tmp} {a : Act} {w : World} {K : Act → World → Prop} {f : FuncId} {fn : Func} {oa : Array Operand} {ts : Array TypeId} (hf : P.funcs[f]? = some fn) (hname : (fn.name == "runtime.NumGoroutine") = false) (hb : fn.body.isSome = true) (args : Array Value)
    (hw : Region.wanted oi (yielded ops a.tmps) = true) (hop : oi.op = .call { callee := .value (.func f), args := oa, argTypes := ts }) (hargs : oa.map a.eval = args) {ch : List PanicEntry}
    (h : Calls P f args w fun e w' => e = .panicked ch ∧ Q (.panic ch) a w') : if Region.wanted oi (yielded ops a.tmps) = true then Oper.wp P oi a w K Q else K (a.put N undef) w := by
  rw [if_pos hw]
  have he := enters_ hf hname hb args w
  have hrun : (execOp a.eval oi).run P w = .ok (.enter f args) w := by
    unfold execOp
    simp [hop, resolve, Deferred.ofValue, invoke, Act.eval, hargs, he]
  unfold Oper.wp
  rw [hrun, Oper.upon_enter]
  refine h.mono fun e w'' hh => ?_
  obtain ⟨rfl, hq⟩ := hh
  exact hq
theorem blk_setNe {w : World} {g b : Nat} {o : Obj} (h : w.heap[g]? = some o) (hn : g ≠ b) (j : Nat) (v : Value) : (w.setCell ⟨b, j, none⟩ v).heap[g]? = some o := (Below.heap_setCell w ⟨b, j, none⟩ v g hn).trans h
theorem val_below (k n : Int) (s : ByteArray) (w : World) : Calls Tryz.prog 370 #[.agg #[.int .i64 k, .int .i64 n, .string s]] w fun e w' => e = .returned (.agg #[.string Ps.sVal, .int .i64 k, .int .i64 n, .string s, .string ⟨#[]⟩, .slice none 0 0]) ∧ Below w.heap.size w w' :=
  (val_calls k n s w).mono fun e w' ⟨he, o, o', hw⟩ => ⟨he, by subst hw; exact below_alloc (below_alloc (Below.refl _ _) _) _⟩
end Go.Proofs.YtcgdncpioafbdaaGreatDoor.Q
/- How much the parser takes. -/
namespace Go.Proofs.YtcgdncpioafbdaaGreatDoor.Ps
open Go Go.Proofs.YtcgdncpioafbdaaGreatDoor.Q
theorem nx_len {ts r : List S32} {t : S32} (h : nx ts = some (t, r)) : r.length + 1 = ts.length ∧ t.f0 ≠ 0 ∧ ts = t :: r := by
  cases ts with
  | nil => simp [nx] at h
  | cons a b =>
    simp only [nx] at h
    split at h
    · cases h
    · cases h; exact ⟨rfl, by assumption, rfl⟩
theorem tk_len {s : ByteArray} {ts r : List S32} {b : Bool} (h : tk s ts = some (b, r)) : r.length ≤ ts.length ∧ (b = true → r.length < ts.length) ∧ (b = false → r = ts) := by
  unfold tk at h
  split at h
  · cases hn : nx ts with
    | none => rw [hn] at h; cases h
    | some p =>
      obtain ⟨t, r'⟩ := p
      rw [hn] at h
      cases h
      have := nx_len hn
      exact ⟨by simp only; omega, fun _ => by simp only; omega, by simp⟩
  · cases h; exact ⟨Nat.le_refl _, by simp, by simp⟩
theorem ms_len : ∀ {l : List ByteArray} {ts r : List S32}, ms l ts = some r → r.length ≤ ts.length
  | [], ts, r, h => by simp only [ms] at h; cases h; exact Nat.le_refl _
  | s :: l, ts, r, h => by
    simp only [ms] at h
    cases ht : tk s ts with
    | none => rw [ht] at h; cases h
    | some p =>
      obtain ⟨b, r'⟩ := p
      rw [ht] at h
      cases b with
      | false => cases h
      | true =>
        have h1 := ms_len h
        have h2 := (tk_len ht).1
        omega
theorem nm_len {ts r : List S32} {s : ByteArray} (h : nm ts = some (s, r)) : r.length < ts.length := by
  unfold nm at h
  cases hn : nx ts with
  | none => rw [hn] at h; cases h
  | some p =>
    obtain ⟨t, r'⟩ := p
    rw [hn] at h
    simp only at h
    have := nx_len hn
    split at h
    · split at h
      · cases h
      · cases h; omega
    · cases h
theorem all_len (k : Nat) : (∀ least ts e r, expr k least ts = some (e, r) → r.length < ts.length) ∧ (∀ least x ts e r, more k least x ts = some (e, r) → r.length ≤ ts.length) ∧ (∀ ts e r, first k ts = some (e, r) → r.length < ts.length) := by
  induction k with
  | zero => exact ⟨fun _ _ _ _ h => by simp [expr] at h, fun _ _ _ _ _ h => by simp [more] at h, fun _ _ _ h => by simp [first] at h⟩
  | succ k ih =>
    obtain ⟨ih1, ih2, ih3⟩ := ih
    refine ⟨fun least ts e r h => ?_, fun least x ts e r h => ?_, fun ts e r h => ?_⟩
    · simp only [expr] at h
      split at h
      · cases h
      · split at h
        · cases h
        · rename_i e' r' hf
          have h1 := ih3 _ _ _ hf
          have h2 := ih2 _ _ _ _ _ h
          omega
    · simp only [more] at h
      split at h
      · cases h; exact Nat.le_refl _
      · split at h
        · cases h; exact Nat.le_refl _
        · split at h
          · cases h
          · rename_i t r1 hn
            have h0 := nx_len hn
            split at h
            · split at h
              · cases h
              · rename_i no r2 ht
                have h1 := tk_len ht
                split at h
                · cases h
                · rename_i r3 hm
                  have h2 := ms_len hm
                  have h3 := ih2 _ _ _ _ _ h
                  omega
            · split at h
              · cases h
              · rename_i y r2 he
                have h1 := ih1 _ _ _ _ he
                have h2 := ih2 _ _ _ _ _ h
                omega
    · simp only [first] at h
      split at h
      · cases h
      · rename_i t r1 hn
        have h0 := nx_len hn
        repeat' (split at h)
        all_goals first
          | (cases h; done)
          | (cases h; omega)
          | skip
        all_goals (try cases h)
        all_goals (try have h1 := ih1 _ _ _ _ (by assumption))
        all_goals (try have h2 := ms_len (by assumption))
        all_goals first | omega | skip
        all_goals (rename_i h3 _ _ _ _ _ _; have h4 := ms_len h3; omega)
theorem expr_len {k : Nat} {least : Int} {ts r : List S32} {e : S43} (h : expr k least ts = some (e, r)) : r.length < ts.length := (all_len k).1 _ _ _ _ h
theorem first_len {k : Nat} {ts r : List S32} {e : S43} (h : first k ts = some (e, r)) : r.length < ts.length := (all_len k).2.2 _ _ _ h
end Go.Proofs.YtcgdncpioafbdaaGreatDoor.Ps
/- The parser: expr (under the contracts of what it calls with less rounds). -/
namespace Go.Proofs.YtcgdncpioafbdaaGreatDoor.Q
open Go Go.RowKit Go.Proofs.YtcgdncpioafbdaaGreatDoorW.PrintWords Go.Proofs.YtcgdncpioafbdaaGreatDoorW.PrintLast
def ExprAt (k : Nat) : Prop := ∀ (w0 : World) (g : Nat) (ts : List S32) (w : World) (least : Int), PS w0 g ts w → 2 * ts.length + 1 ≤ k → Calls Tryz.prog 358 #[.pointer (some ⟨g, 0, none⟩), .int .i64 least] w (Out w0 g (Vex w.heap.size) w (Ps.expr k least ts))
def FirstAt (k : Nat) : Prop := ∀ (w0 : World) (g : Nat) (ts : List S32) (w : World), PS w0 g ts w → 2 * ts.length ≤ k → Calls Tryz.prog 368 #[.pointer (some ⟨g, 0, none⟩)] w (Out w0 g (Vex w.heap.size) w (Ps.first k ts))
theorem PS.setB {w0 w : World} {g : Nat} {ts : List S32} (h : PS w0 g ts w) {b : Nat} (hb : w0.heap.size ≤ b) (hg : b ≠ g) (j : Nat) (v : Value) : PS w0 g ts (w.setCell ⟨b, j, none⟩ v) := by
  obtain ⟨h1, h2, h3, ⟨A, c, h4, h5, h6⟩, h7⟩ := h
  have h8 := h3.setCell (p := ⟨b, j, none⟩) hb v
  have hs := (((Below.refl w.heap.size w).mono (Nat.zero_le _)).setCell (B := 0) (p := ⟨b, j, none⟩) (Nat.zero_le _) v).size
  exact ⟨h1, Nat.lt_of_lt_of_le h2 hs, h8, ⟨A, c, h4, h5, (Below.heap_setCell w ⟨b, j, none⟩ v g (fun e => hg e.symm)).trans h6⟩, h7⟩
theorem Gr.setB {g : Nat} {w w1 : World} (h : Gr g w w1) {b : Nat} (hb : w.heap.size ≤ b) (j : Nat) (v : Value) : Gr g w (w1.setCell ⟨b, j, none⟩ v) := by
  have hc : Below 0 w1 (w1.setCell ⟨b, j, none⟩ v) := ((Below.refl w1.heap.size w1).mono (Nat.zero_le _)).setCell (Nat.zero_le _) v
  refine ⟨hc.os.trans h.os, hc.tape.trans h.tape, hc.output.trans h.output, Nat.le_trans h.size hc.size, fun i hi hg => ?_⟩
  rw [Below.heap_setCell w1 ⟨b, j, none⟩ v i (show i ≠ b by omega)]
  exact h.block i hi hg
theorem Gr.blk {g b : Nat} {w w1 : World} {o : Obj} (h : Gr g w w1) (hb : w.heap[b]? = some o) (hg : b ≠ g) : w1.heap[b]? = some o := (h.block b (blk_lt hb) hg).trans hb
set_option maxHeartbeats 4000000 in
set_option maxRecDepth 100000 in
theorem expr_step (k : Nat) (ihE : ∀ j, j ≤ k → ExprAt j) (ihF : FirstAt k) : ExprAt (k + 1) := by
  intro w0 g ts w least hps hk
  have HP := Aside0.mk hps
  clear hps
  have hlt := HP.out.lt
  by_cases c : (Ps.pk ts).toList = Ps.sNot.toList ∧ least > 3
  · have c0 : ((Ps.pk ts).toList == Ps.sNot.toList) = true := beq_iff_eq.mpr c.1
    have c1 : decide (3 < least) = true := decide_eq_true c.2
    have HM := Aside0.mk (show Ps.expr (k + 1) least ts = none by simp only [Ps.expr]; rw [if_pos c])
    clear c
    rw [wNot] at c0
    go_enter Tryz.func358, Tryz.ntmps358
    go_wp2_with (first | (go_at_call 327; refine (peek_calls (HP.out.alloc _)).mono ?_; rintro e w1 ⟨rfl, hb⟩; have HB := Aside0.mk hb; clear hb) | (go_at_call 264; refine (fail_calls g _).mono ?_; rintro e w3 ⟨rfl, rfl⟩))
    exact ⟨rfl, Out.of_none HM.out (((Gr.refl g w).alloc _).step HB.out)⟩
  · have hc : ((Ps.pk ts).toList == [110, 111, 116]) = false ∨ (((Ps.pk ts).toList == [110, 111, 116]) = true ∧ decide (3 < least) = false) := by
      rw [wNot] at c
      by_cases c1 : (Ps.pk ts).toList = [110, 111, 116]
      · exact .inr ⟨beq_iff_eq.mpr c1, decide_eq_false (fun h => c ⟨c1, h⟩)⟩
      · exact .inl (beq_eq_false_iff_ne.mpr c1)
    have HM := Aside0.mk (show Ps.expr (k + 1) least ts = match Ps.first k ts with
      | none => none
      | some (e, r) => Ps.more k least e r by simp only [Ps.expr]; rw [if_neg c]; cases Ps.first k ts <;> rfl)
    clear c
    cases hf : Ps.first k ts with
    | none =>
      rw [hf] at HM
      have HF := Aside0.mk hf
      clear hf
      rcases hc with c0 | ⟨c0, c1⟩
      all_goals
        go_enter Tryz.func358, Tryz.ntmps358
        go_wp2_with (first | (go_at_call 327; refine (peek_calls (HP.out.alloc _)).mono ?_; rintro e w1 ⟨rfl, hb⟩; have HB := Aside0.mk hb; clear hb) | (go_at_call 368; refine (ihF w0 g ts _ ((HP.out.alloc _).below HB.out) (by omega)).mono ?_; intro e w2 ho; obtain ⟨hg, rfl⟩ := ho.none HF.out; have HG := Aside0.mk hg; clear hg ho))
        exact ⟨rfl, Out.of_none HM.out ((((Gr.refl g w).alloc _).step HB.out).trans HG.out)⟩
    | some p =>
      obtain ⟨e0, r0⟩ := p
      rw [hf] at HM
      have HF := Aside0.mk hf
      clear hf
      have hlow := HP.out.low
      rcases hc with c0 | ⟨c0, c1⟩
      all_goals
        go_enter Tryz.func358, Tryz.ntmps358
        go_wp2_with (first | (go_at_call 327; refine (peek_calls (HP.out.alloc _)).mono ?_; rintro e w1 ⟨rfl, hb⟩; have HB := Aside0.mk hb; clear hb) | (go_at_call 368; refine (ihF w0 g ts _ ((HP.out.alloc _).below HB.out) (by omega)).mono ?_; intro e w2 ho; obtain ⟨hg, v, rfl, hv, hp⟩ := ho.some HF.out; obtain ⟨A0, n0, rfl, hn0, hf0⟩ := hv; have HG := Aside0.mk ((((Gr.refl g w).alloc _).step HB.out).trans hg); have HQ := Aside0.mk hp; have HN := Aside0.mk hn0; have HE := Aside0.mk hf0; have BR := Aside0.mk (hg.blk ((HB.out.block w.heap.size (by simp)).trans (new_blk _ rfl)) (by omega)); have hsz : w.heap.size < w2.heap.size := Nat.lt_of_lt_of_le (by have := HB.out.size; simp at this; omega) hg.size; have hsz1 : w.heap.size < w1.heap.size := (by have := HB.out.size; simp at this; omega); clear hg ho hp hn0 hf0; unfold cells43))
        go_loopg [6] k (fun kq v6 w' => ∃ (e : S43) (A : Option Addr) (n : Nat) (tq : List S32), Aside0 (Ps.more kq least e tq = Ps.expr (k + 1) least ts) ∧ Aside0 (2 * tq.length + 1 ≤ kq) ∧ Aside0 (kq ≤ k) ∧ Aside0 (w'.heap[w2.heap.size]? = some (.cells (cells43 e A n).toArray 43 (0, 0))) ∧ Aside0 (w'.heap[w.heap.size]? = some (.cells #[.string ⟨#[]⟩, .int .i64 0, .int .i64 0, .string ⟨#[]⟩, .string ⟨#[]⟩, .slice none 0 0] 43 (0, 0))) ∧ Aside0 (e.f3.length ≤ n) ∧ Aside0 (Kd.F k43 w' (fun q => w.heap.size < q ∧ q ≠ w2.heap.size) A e.f3.length e.f3) ∧ Aside0 (PS w0 g tq w') ∧ Aside0 (Gr g w w'))
        case atStart => exact ⟨e0, A0, n0, r0, ⟨HM.out.symm⟩, ⟨by have := Ps.first_len HF.out; omega⟩, ⟨Nat.le_refl _⟩, ⟨new_blk _ rfl⟩, ⟨blk_alloc BR.out _⟩, HN, ⟨Kd.F_alloc (Kd.F_mono (Kd.F_bound HE.out) (fun q hq => ⟨by omega, by omega⟩)) _⟩, ⟨HQ.out.alloc _⟩, ⟨HG.out.alloc _⟩⟩
        case round =>
          clear HM HF HQ HN HE BR HG HB
          try clear c0
          try clear c1
          obtain ⟨e, A, n, tq, HM, HL, HK, BK, BR, HN, HE, HQ, HG⟩ := hrel
          have hwr : w2.heap.size < wr.heap.size := blk_lt BK.out
          cases gk with
          | zero => exact absurd HL.out (by omega)
          | succ j =>
            have hm := HM.out
            clear HM
            simp only [Ps.more] at hm
            obtain ⟨s, hs⟩ : ∃ s, Ps.pk tq = s := ⟨_, rfl⟩
            obtain ⟨b, hb0⟩ : ∃ b, Ps.binds s = b := ⟨_, rfl⟩
            rw [hs, hb0] at hm
            have BV := Aside0.mk hb0
            have BI := Aside0.mk (show parse_binds.f 3 s = some b by rw [binds_is, hb0])
            have HS := Aside0.mk hs
            clear hs hb0
            by_cases k1 : b = 0
            · rw [if_pos k1] at hm
              have b0 : (b == 0) = true := beq_iff_eq.mpr k1
              have HM := Aside0.mk hm
              clear k1 hm
              go_wp2_with (first | (go_at_call 327; refine (peek_calls HQ.out).mono ?_; rintro e w3 ⟨rfl, hb⟩; rw [HS.out]; have hg := Gr.of_below (g := g) hb; have BK3 := Aside0.mk (hg.blk BK.out (by omega)); have BR3 := Aside0.mk (hg.blk BR.out (by omega)); have HE3 := Aside0.mk (hg.F HE.out (fun q hq => by omega)); have b3c0 : w3.cell? ⟨w2.heap.size, 0, none⟩ = some (.string e.f0) := (blk_cell BK3.out 0).trans rfl; have b3c1 : w3.cell? ⟨w2.heap.size, 1, none⟩ = some (.int .i64 e.f1.f0) := (blk_cell BK3.out 1).trans rfl; have b3c2 : w3.cell? ⟨w2.heap.size, 2, none⟩ = some (.int .i64 e.f1.f1) := (blk_cell BK3.out 2).trans rfl; have b3c3 : w3.cell? ⟨w2.heap.size, 3, none⟩ = some (.string e.f1.f2) := (blk_cell BK3.out 3).trans rfl; have b3c4 : w3.cell? ⟨w2.heap.size, 4, none⟩ = some (.string e.f2) := (blk_cell BK3.out 4).trans rfl; have b3c5 : w3.cell? ⟨w2.heap.size, 5, none⟩ = some (.slice A e.f3.length n) := (blk_cell BK3.out 5).trans rfl; have r3c0 : w3.cell? ⟨w.heap.size, 0, none⟩ = some (.string ⟨#[]⟩) := (blk_cell BR3.out 0).trans rfl; have r3c1 : w3.cell? ⟨w.heap.size, 1, none⟩ = some (.int .i64 0) := (blk_cell BR3.out 1).trans rfl; have r3c2 : w3.cell? ⟨w.heap.size, 2, none⟩ = some (.int .i64 0) := (blk_cell BR3.out 2).trans rfl; have r3c3 : w3.cell? ⟨w.heap.size, 3, none⟩ = some (.string ⟨#[]⟩) := (blk_cell BR3.out 3).trans rfl; have r3c4 : w3.cell? ⟨w.heap.size, 4, none⟩ = some (.string ⟨#[]⟩) := (blk_cell BR3.out 4).trans rfl; have r3c5 : w3.cell? ⟨w.heap.size, 5, none⟩ = some (.slice none 0 0) := (blk_cell BR3.out 5).trans rfl; have b3z0 := blk_frozen BK3.out 0; have b3z1 := blk_frozen BK3.out 1; have b3z2 := blk_frozen BK3.out 2; have b3z3 := blk_frozen BK3.out 3; have b3z4 := blk_frozen BK3.out 4; have b3z5 := blk_frozen BK3.out 5; have r3z0 := blk_frozen BR3.out 0; have r3z1 := blk_frozen BR3.out 1; have r3z2 := blk_frozen BR3.out 2; have r3z3 := blk_frozen BR3.out 3; have r3z4 := blk_frozen BR3.out 4; have r3z5 := blk_frozen BR3.out 5; have HQ3 := Aside0.mk (HQ.out.below hb); have HG3 := Aside0.mk (HG.out.trans hg); clear hg hb) | (go_at_call 102; refine (parse_binds.calls 3 _ _ _ BI.out).mono ?_; rintro e w4 ⟨rfl, ⟨nd, rfl⟩⟩))
              refine bodyPost_ret (v := .agg (cells43 e A n).toArray) ?_ rfl ?_
              · simp [results, Tryz.results358, go_sem, cells43, r3c0, r3c1, r3c2, r3c3, r3c4, r3c5, r3z0, r3z1, r3z2, r3z3, r3z4, r3z5]
              · refine Out.of_some HM.out.symm ?_ ⟨A, n, rfl, HN.out, ?_⟩ ?_
                · with_reducible (repeat (first | exact HG3.out | apply Gr.drewN | refine Gr.setB ?_ (Nat.le_refl _) _ _))
                · refine Kd.F_mono (ok := fun q => w.heap.size < q ∧ q ≠ w2.heap.size) ?_ (fun q hq => by omega)
                  with_reducible (repeat (first | exact HE3.out | apply Kd.F_drewN | refine Kd.F_far ?_ (fun q hq => Nat.ne_of_gt hq.1) _))
                · with_reducible (repeat (first | exact HQ3.out | apply PS.drewN | refine PS.setB ?_ (by omega) (by omega) _ _))
            · rw [if_neg k1] at hm
              have b0 : (b == 0) = false := beq_eq_false_iff_ne.mpr k1
              by_cases k2 : b < least
              · rw [if_pos k2] at hm
                have b1 : decide (b < least) = true := decide_eq_true k2
                have HM := Aside0.mk hm
                clear k1 k2 hm
                go_wp2_with (first | (go_at_call 327; refine (peek_calls HQ.out).mono ?_; rintro e w3 ⟨rfl, hb⟩; rw [HS.out]; have hg := Gr.of_below (g := g) hb; have BK3 := Aside0.mk (hg.blk BK.out (by omega)); have BR3 := Aside0.mk (hg.blk BR.out (by omega)); have HE3 := Aside0.mk (hg.F HE.out (fun q hq => by omega)); have b3c0 : w3.cell? ⟨w2.heap.size, 0, none⟩ = some (.string e.f0) := (blk_cell BK3.out 0).trans rfl; have b3c1 : w3.cell? ⟨w2.heap.size, 1, none⟩ = some (.int .i64 e.f1.f0) := (blk_cell BK3.out 1).trans rfl; have b3c2 : w3.cell? ⟨w2.heap.size, 2, none⟩ = some (.int .i64 e.f1.f1) := (blk_cell BK3.out 2).trans rfl; have b3c3 : w3.cell? ⟨w2.heap.size, 3, none⟩ = some (.string e.f1.f2) := (blk_cell BK3.out 3).trans rfl; have b3c4 : w3.cell? ⟨w2.heap.size, 4, none⟩ = some (.string e.f2) := (blk_cell BK3.out 4).trans rfl; have b3c5 : w3.cell? ⟨w2.heap.size, 5, none⟩ = some (.slice A e.f3.length n) := (blk_cell BK3.out 5).trans rfl; have r3c0 : w3.cell? ⟨w.heap.size, 0, none⟩ = some (.string ⟨#[]⟩) := (blk_cell BR3.out 0).trans rfl; have r3c1 : w3.cell? ⟨w.heap.size, 1, none⟩ = some (.int .i64 0) := (blk_cell BR3.out 1).trans rfl; have r3c2 : w3.cell? ⟨w.heap.size, 2, none⟩ = some (.int .i64 0) := (blk_cell BR3.out 2).trans rfl; have r3c3 : w3.cell? ⟨w.heap.size, 3, none⟩ = some (.string ⟨#[]⟩) := (blk_cell BR3.out 3).trans rfl; have r3c4 : w3.cell? ⟨w.heap.size, 4, none⟩ = some (.string ⟨#[]⟩) := (blk_cell BR3.out 4).trans rfl; have r3c5 : w3.cell? ⟨w.heap.size, 5, none⟩ = some (.slice none 0 0) := (blk_cell BR3.out 5).trans rfl; have b3z0 := blk_frozen BK3.out 0; have b3z1 := blk_frozen BK3.out 1; have b3z2 := blk_frozen BK3.out 2; have b3z3 := blk_frozen BK3.out 3; have b3z4 := blk_frozen BK3.out 4; have b3z5 := blk_frozen BK3.out 5; have r3z0 := blk_frozen BR3.out 0; have r3z1 := blk_frozen BR3.out 1; have r3z2 := blk_frozen BR3.out 2; have r3z3 := blk_frozen BR3.out 3; have r3z4 := blk_frozen BR3.out 4; have r3z5 := blk_frozen BR3.out 5; have HQ3 := Aside0.mk (HQ.out.below hb); have HG3 := Aside0.mk (HG.out.trans hg); clear hg hb) | (go_at_call 102; refine (parse_binds.calls 3 _ _ _ BI.out).mono ?_; rintro e w4 ⟨rfl, ⟨nd, rfl⟩⟩))
                refine bodyPost_ret (v := .agg (cells43 e A n).toArray) ?_ rfl ?_
                · simp [results, Tryz.results358, go_sem, cells43, r3c0, r3c1, r3c2, r3c3, r3c4, r3c5, r3z0, r3z1, r3z2, r3z3, r3z4, r3z5]
                · refine Out.of_some HM.out.symm ?_ ⟨A, n, rfl, HN.out, ?_⟩ ?_
                  · with_reducible (repeat (first | exact HG3.out | apply Gr.drewN | refine Gr.setB ?_ (Nat.le_refl _) _ _))
                  · refine Kd.F_mono (ok := fun q => w.heap.size < q ∧ q ≠ w2.heap.size) ?_ (fun q hq => by omega)
                    with_reducible (repeat (first | exact HE3.out | apply Kd.F_drewN | refine Kd.F_far ?_ (fun q hq => Nat.ne_of_gt hq.1) _))
                  · with_reducible (repeat (first | exact HQ3.out | apply PS.drewN | refine PS.setB ?_ (by omega) (by omega) _ _))
              · rw [if_neg k2] at hm
                have b1 : decide (b < least) = false := decide_eq_false k2
                clear k1 k2
                have hbr := binds_range s
                rw [BV.out] at hbr
                have wrapb : wrap64 (b + 1) = b + 1 := by unfold wrap64; omega
                cases hn : Ps.nx tq with
                | none =>
                  rw [hn] at hm
                  have HM := Aside0.mk hm
                  have HN5 := Aside0.mk hn
                  clear hm hn wrapb
                  go_wp2_with (first | (go_at_call 327; refine (peek_calls HQ.out).mono ?_; rintro e w3 ⟨rfl, hb⟩; rw [HS.out]; have hg := Gr.of_below (g := g) hb; have hs3 := hb.size; have BK3 := Aside0.mk (hg.blk BK.out (by omega)); have BR3 := Aside0.mk (hg.blk BR.out (by omega)); have HE3 := Aside0.mk (hg.F HE.out (fun q hq => by omega)); have HQ3 := Aside0.mk (HQ.out.below hb); have HG3 := Aside0.mk (HG.out.trans hg); clear hg hb) | (go_at_call 102; refine (parse_binds.calls 3 _ _ _ BI.out).mono ?_; rintro e w4 ⟨rfl, ⟨nd, rfl⟩⟩) | (go_at_call 258; refine (next_out (HQ3.out.drewN _)).mono ?_; intro e w5 ho; obtain ⟨hg, rfl⟩ := ho.none HN5.out; have HG5 := Aside0.mk ((HG3.out.drewN _).trans hg); clear hg ho))
                  exact ⟨rfl, Out.of_none HM.out.symm HG5.out⟩
                | some p =>
                  obtain ⟨t5, r5⟩ := p
                  rw [hn] at hm
                  simp only at hm
                  have HN5 := Aside0.mk hn
                  clear hn
                  by_cases k3 : s.toList = Ps.sIs.toList
                  · rw [if_pos k3] at hm
                    rw [wIs] at k3
                    have s0 : (s.toList == [105, 115]) = true := beq_iff_eq.mpr k3
                    have s1 : (s.toList != [105, 115]) = false := bne_eq_false_iff_eq.mpr k3
                    clear k3 wrapb
                    cases ht : Ps.tk Ps.sNot r5 with
                    | none =>
                      rw [ht] at hm
                      have HM := Aside0.mk hm
                      have HT := Aside0.mk ht
                      clear hm ht
                      go_wp2_with (first | (go_at_call 327; refine (peek_calls HQ.out).mono ?_; rintro e w3 ⟨rfl, hb⟩; rw [HS.out]; have hg := Gr.of_below (g := g) hb; have hs3 := hb.size; have BK3 := Aside0.mk (hg.blk BK.out (by omega)); have BR3 := Aside0.mk (hg.blk BR.out (by omega)); have HE3 := Aside0.mk (hg.F HE.out (fun q hq => by omega)); have HQ3 := Aside0.mk (HQ.out.below hb); have HG3 := Aside0.mk (HG.out.trans hg); clear hg hb) | (go_at_call 102; refine (parse_binds.calls 3 _ _ _ BI.out).mono ?_; rintro e w4 ⟨rfl, ⟨nd, rfl⟩⟩) | (go_at_call 258; refine (next_out (HQ3.out.drewN _)).mono ?_; intro e w5 ho; obtain ⟨hg, v, rfl, rfl, hp⟩ := ho.some HN5.out; have hg3 := ((Gr.refl g w3).drewN nd).trans hg; have hs5 := hg3.size; have BK5 := Aside0.mk (hg3.blk BK3.out (by omega)); have BR5 := Aside0.mk (hg3.blk BR3.out (by omega)); have HE5 := Aside0.mk (hg3.F HE3.out (fun q hq => by omega)); have b5c0 : w5.cell? ⟨w2.heap.size, 0, none⟩ = some (.string e.f0) := (blk_cell BK5.out 0).trans rfl; have b5c1 : w5.cell? ⟨w2.heap.size, 1, none⟩ = some (.int .i64 e.f1.f0) := (blk_cell BK5.out 1).trans rfl; have b5c2 : w5.cell? ⟨w2.heap.size, 2, none⟩ = some (.int .i64 e.f1.f1) := (blk_cell BK5.out 2).trans rfl; have b5c3 : w5.cell? ⟨w2.heap.size, 3, none⟩ = some (.string e.f1.f2) := (blk_cell BK5.out 3).trans rfl; have b5c4 : w5.cell? ⟨w2.heap.size, 4, none⟩ = some (.string e.f2) := (blk_cell BK5.out 4).trans rfl; have b5c5 : w5.cell? ⟨w2.heap.size, 5, none⟩ = some (.slice A e.f3.length n) := (blk_cell BK5.out 5).trans rfl; have b5z0 := blk_frozen BK5.out 0; have b5z1 := blk_frozen BK5.out 1; have b5z2 := blk_frozen BK5.out 2; have b5z3 := blk_frozen BK5.out 3; have b5z4 := blk_frozen BK5.out 4; have b5z5 := blk_frozen BK5.out 5; have HQ5 := Aside0.mk hp; have HG5 := Aside0.mk (HG3.out.trans hg3); clear hg hg3 ho hp) | (go_at_call 271; refine (take_out HQ5.out Ps.sNot).mono ?_; intro e w6 ho; obtain ⟨hg, rfl⟩ := ho.none HT.out; have HG6 := Aside0.mk (HG5.out.trans hg); clear hg ho))
                      exact ⟨rfl, Out.of_none HM.out.symm HG6.out⟩
                    | some p =>
                      obtain ⟨no, r6⟩ := p
                      rw [ht] at hm
                      simp only at hm
                      have HT := Aside0.mk ht
                      clear ht
                      cases hu : Ps.ms [Ps.sNull] r6 with
                      | none =>
                        rw [hu] at hm
                        have HM := Aside0.mk hm
                        have HU := Aside0.mk hu
                        clear hm hu
                        go_wp2_with (first | (go_at_call 327; refine (peek_calls HQ.out).mono ?_; rintro e w3 ⟨rfl, hb⟩; rw [HS.out]; have hg := Gr.of_below (g := g) hb; have hs3 := hb.size; have BK3 := Aside0.mk (hg.blk BK.out (by omega)); have BR3 := Aside0.mk (hg.blk BR.out (by omega)); have HE3 := Aside0.mk (hg.F HE.out (fun q hq => by omega)); have HQ3 := Aside0.mk (HQ.out.below hb); have HG3 := Aside0.mk (HG.out.trans hg); clear hg hb) | (go_at_call 102; refine (parse_binds.calls 3 _ _ _ BI.out).mono ?_; rintro e w4 ⟨rfl, ⟨nd, rfl⟩⟩) | (go_at_call 258; refine (next_out (HQ3.out.drewN _)).mono ?_; intro e w5 ho; obtain ⟨hg, v, rfl, rfl, hp⟩ := ho.some HN5.out; have hg3 := ((Gr.refl g w3).drewN nd).trans hg; have hs5 := hg3.size; have BK5 := Aside0.mk (hg3.blk BK3.out (by omega)); have BR5 := Aside0.mk (hg3.blk BR3.out (by omega)); have HE5 := Aside0.mk (hg3.F HE3.out (fun q hq => by omega)); have b5c0 : w5.cell? ⟨w2.heap.size, 0, none⟩ = some (.string e.f0) := (blk_cell BK5.out 0).trans rfl; have b5c1 : w5.cell? ⟨w2.heap.size, 1, none⟩ = some (.int .i64 e.f1.f0) := (blk_cell BK5.out 1).trans rfl; have b5c2 : w5.cell? ⟨w2.heap.size, 2, none⟩ = some (.int .i64 e.f1.f1) := (blk_cell BK5.out 2).trans rfl; have b5c3 : w5.cell? ⟨w2.heap.size, 3, none⟩ = some (.string e.f1.f2) := (blk_cell BK5.out 3).trans rfl; have b5c4 : w5.cell? ⟨w2.heap.size, 4, none⟩ = some (.string e.f2) := (blk_cell BK5.out 4).trans rfl; have b5c5 : w5.cell? ⟨w2.heap.size, 5, none⟩ = some (.slice A e.f3.length n) := (blk_cell BK5.out 5).trans rfl; have b5z0 := blk_frozen BK5.out 0; have b5z1 := blk_frozen BK5.out 1; have b5z2 := blk_frozen BK5.out 2; have b5z3 := blk_frozen BK5.out 3; have b5z4 := blk_frozen BK5.out 4; have b5z5 := blk_frozen BK5.out 5; have HQ5 := Aside0.mk hp; have HG5 := Aside0.mk (HG3.out.trans hg3); clear hg hg3 ho hp) | (go_at_call 271; refine (take_out HQ5.out Ps.sNot).mono ?_; intro e w6 ho; obtain ⟨hg, v, rfl, rfl, hp⟩ := ho.some HT.out; have hs6 := hg.size; have BK6 := Aside0.mk (hg.blk BK5.out (by omega)); have BR6 := Aside0.mk (hg.blk BR5.out (by omega)); have HE6 := Aside0.mk (hg.F HE5.out (fun q hq => by omega)); have HQ6 := Aside0.mk hp; have HG6 := Aside0.mk (HG5.out.trans hg); clear hg ho hp) | (go_at_call 259; refine (must1 HQ6.out rfl Ps.sNull 1).mono ?_; intro e w7 ho; obtain ⟨hg, rfl⟩ := ho.none (msU_none HU.out); have HG7 := Aside0.mk (HG6.out.trans hg); clear hg ho))
                        exact ⟨rfl, Out.of_none HM.out.symm HG7.out⟩
                      | some r7 =>
                        rw [hu] at hm
                        simp only at hm
                        have HU := Aside0.mk hu
                        clear hu
                        go_upto_region 13 with (first | (go_at_call 327; refine (peek_calls HQ.out).mono ?_; rintro e w3 ⟨rfl, hb⟩; rw [HS.out]; have hg := Gr.of_below (g := g) hb; have hs3 := hb.size; have BK3 := Aside0.mk (hg.blk BK.out (by omega)); have BR3 := Aside0.mk (hg.blk BR.out (by omega)); have HE3 := Aside0.mk (hg.F HE.out (fun q hq => by omega)); have HQ3 := Aside0.mk (HQ.out.below hb); have HG3 := Aside0.mk (HG.out.trans hg); clear hg hb) | (go_at_call 102; refine (parse_binds.calls 3 _ _ _ BI.out).mono ?_; rintro e w4 ⟨rfl, ⟨nd, rfl⟩⟩) | (go_at_call 258; refine (next_out (HQ3.out.drewN _)).mono ?_; intro e w5 ho; obtain ⟨hg, v, rfl, rfl, hp⟩ := ho.some HN5.out; have hg3 := ((Gr.refl g w3).drewN nd).trans hg; have hs5 := hg3.size; have BK5 := Aside0.mk (hg3.blk BK3.out (by omega)); have BR5 := Aside0.mk (hg3.blk BR3.out (by omega)); have HE5 := Aside0.mk (hg3.F HE3.out (fun q hq => by omega)); have b5c0 : w5.cell? ⟨w2.heap.size, 0, none⟩ = some (.string e.f0) := (blk_cell BK5.out 0).trans rfl; have b5c1 : w5.cell? ⟨w2.heap.size, 1, none⟩ = some (.int .i64 e.f1.f0) := (blk_cell BK5.out 1).trans rfl; have b5c2 : w5.cell? ⟨w2.heap.size, 2, none⟩ = some (.int .i64 e.f1.f1) := (blk_cell BK5.out 2).trans rfl; have b5c3 : w5.cell? ⟨w2.heap.size, 3, none⟩ = some (.string e.f1.f2) := (blk_cell BK5.out 3).trans rfl; have b5c4 : w5.cell? ⟨w2.heap.size, 4, none⟩ = some (.string e.f2) := (blk_cell BK5.out 4).trans rfl; have b5c5 : w5.cell? ⟨w2.heap.size, 5, none⟩ = some (.slice A e.f3.length n) := (blk_cell BK5.out 5).trans rfl; have b5z0 := blk_frozen BK5.out 0; have b5z1 := blk_frozen BK5.out 1; have b5z2 := blk_frozen BK5.out 2; have b5z3 := blk_frozen BK5.out 3; have b5z4 := blk_frozen BK5.out 4; have b5z5 := blk_frozen BK5.out 5; have HQ5 := Aside0.mk hp; have HG5 := Aside0.mk (HG3.out.trans hg3); clear hg hg3 ho hp) | (go_at_call 271; refine (take_out HQ5.out Ps.sNot).mono ?_; intro e w6 ho; obtain ⟨hg, v, rfl, rfl, hp⟩ := ho.some HT.out; have hs6 := hg.size; have BK6 := Aside0.mk (hg.blk BK5.out (by omega)); have BR6 := Aside0.mk (hg.blk BR5.out (by omega)); have HE6 := Aside0.mk (hg.F HE5.out (fun q hq => by omega)); have HQ6 := Aside0.mk hp; have HG6 := Aside0.mk (HG5.out.trans hg); clear hg ho hp) | (go_at_call 259; refine (must1 HQ6.out rfl Ps.sNull 1).mono ?_; intro e9 w7 ho; obtain ⟨hg, v, rfl, rfl, hp⟩ := ho.some (msU_some HU.out); have hs7 := hg.size; have BK7 := Aside0.mk (hg.blk BK6.out (by omega)); have BR7 := Aside0.mk (hg.blk BR6.out (by omega)); have HE7 := Aside0.mk (hg.F HE6.out (fun q hq => by omega)); have b7c0 : w7.cell? ⟨w2.heap.size, 0, none⟩ = some (.string e.f0) := (blk_cell BK7.out 0).trans rfl; have b7c1 : w7.cell? ⟨w2.heap.size, 1, none⟩ = some (.int .i64 e.f1.f0) := (blk_cell BK7.out 1).trans rfl; have b7c2 : w7.cell? ⟨w2.heap.size, 2, none⟩ = some (.int .i64 e.f1.f1) := (blk_cell BK7.out 2).trans rfl; have b7c3 : w7.cell? ⟨w2.heap.size, 3, none⟩ = some (.string e.f1.f2) := (blk_cell BK7.out 3).trans rfl; have b7c4 : w7.cell? ⟨w2.heap.size, 4, none⟩ = some (.string e.f2) := (blk_cell BK7.out 4).trans rfl; have b7c5 : w7.cell? ⟨w2.heap.size, 5, none⟩ = some (.slice A e.f3.length n) := (blk_cell BK7.out 5).trans rfl; have b7z0 := blk_frozen BK7.out 0; have b7z1 := blk_frozen BK7.out 1; have b7z2 := blk_frozen BK7.out 2; have b7z3 := blk_frozen BK7.out 3; have b7z4 := blk_frozen BK7.out 4; have b7z5 := blk_frozen BK7.out 5; have hb7 : w2.heap.size < w7.heap.size := blk_lt BK7.out; have HQ7 := Aside0.mk hp; have HG7 := Aside0.mk (HG6.out.trans hg); clear hg ho hp))
                        go_cut [8] (fun v8 wc => ∃ (A1 : Option Addr), v8 = .bool no ∧ Aside0 (wc.heap[w2.heap.size]? = some (.cells (cells43 (Ps.op Ps.sIsnull [e]) A1 1).toArray 43 (0, 0))) ∧ Aside0 (wc.heap[w.heap.size]? = some (.cells #[.string ⟨#[]⟩, .int .i64 0, .int .i64 0, .string ⟨#[]⟩, .string ⟨#[]⟩, .slice none 0 0] 43 (0, 0))) ∧ Aside0 (Kd.F k43 wc (fun q => w.heap.size < q ∧ q ≠ w2.heap.size) A1 1 [e]) ∧ Aside0 (PS w0 g r7 wc) ∧ Aside0 (Gr g w wc))
                        case first =>
                          go_wp2_with (first | (go_at_call 369; refine (op_calls _ _ _ _ _).mono ?_; rintro e8 w8 ⟨rfl, o8, rfl⟩))
                          go_meet
                          case rel =>
                            refine ⟨some ⟨w7.heap.size, 0, none⟩, rfl, ?_, ?_, ?_, ?_, ?_⟩
                            · exact ⟨blk_alloc (blk_alloc (blk_put6 BK7.out) _) _⟩
                            · exact ⟨blk_alloc (blk_alloc (by with_reducible (repeat (first | exact BR7.out | refine blk_setNe ?_ (by omega) _ _))) _) _⟩
                            · refine ⟨F_one (x := e) (A := A) (c := n) (blk_alloc (new_blk _ (by simp)) _) ⟨by omega, by omega⟩ HN.out (Kd.F_alloc (Kd.F_alloc ?_ _) _)⟩
                              with_reducible (repeat (first | exact HE7.out | refine Kd.F_far ?_ (fun q hq => hq.2) _))
                            · exact ⟨((by with_reducible (repeat (first | exact HQ7.out | refine PS.setB ?_ (by omega) (by omega) _ _)) : PS w0 g r7 _).alloc _).alloc _⟩
                            · exact ⟨((by with_reducible (repeat (first | exact HG7.out | refine Gr.setB ?_ (by omega) _ _)) : Gr g w _).alloc _).alloc _⟩
                        case rest =>
                          obtain ⟨A1, rfl, BK9, BR9, HE9, HQ9, HG9⟩ := hcut
                          have hb9 : w2.heap.size < wc.heap.size := blk_lt BK9.out
                          cases no with
                          | false =>
                            simp only [Bool.false_eq_true, if_false] at hm
                            have HM := Aside0.mk hm
                            clear hm
                            go_wp2
                            go_roundg j
                            case measure => have := HL.out; omega
                            case rel =>
                              exact ⟨Ps.op Ps.sIsnull [e], A1, 1, r7, HM, ⟨by have := HL.out; have := (Ps.nx_len HN5.out).1; have := (Ps.tk_len HT.out).1; have := Ps.ms_len HU.out; omega⟩, ⟨by have := HK.out; omega⟩, BK9, BR9, ⟨Nat.le_refl _⟩, HE9, HQ9, HG9⟩
                          | true =>
                            simp only [if_true] at hm
                            have HM := Aside0.mk hm
                            clear hm
                            have b9c0 : wc.cell? ⟨w2.heap.size, 0, none⟩ = some (.string Ps.sIsnull) := (blk_cell BK9.out 0).trans rfl
                            have b9c1 : wc.cell? ⟨w2.heap.size, 1, none⟩ = some (.int .i64 0) := (blk_cell BK9.out 1).trans rfl
                            have b9c2 : wc.cell? ⟨w2.heap.size, 2, none⟩ = some (.int .i64 0) := (blk_cell BK9.out 2).trans rfl
                            have b9c3 : wc.cell? ⟨w2.heap.size, 3, none⟩ = some (.string ⟨#[]⟩) := (blk_cell BK9.out 3).trans rfl
                            have b9c4 : wc.cell? ⟨w2.heap.size, 4, none⟩ = some (.string ⟨#[]⟩) := (blk_cell BK9.out 4).trans rfl
                            have b9c5 : wc.cell? ⟨w2.heap.size, 5, none⟩ = some (.slice A1 1 1) := (blk_cell BK9.out 5).trans rfl
                            have b9z0 := blk_frozen BK9.out 0
                            have b9z1 := blk_frozen BK9.out 1
                            have b9z2 := blk_frozen BK9.out 2
                            have b9z3 := blk_frozen BK9.out 3
                            have b9z4 := blk_frozen BK9.out 4
                            have b9z5 := blk_frozen BK9.out 5
                            go_wp2_with (first | (go_at_call 369; refine (op_calls _ _ _ _ _).mono ?_; rintro e8 w8 ⟨rfl, o8, rfl⟩))
                            go_roundg j
                            case measure => have := HL.out; omega
                            case rel =>
                              refine ⟨Ps.op Ps.sNot [Ps.op Ps.sIsnull [e]], some ⟨wc.heap.size, 0, none⟩, 1, r7, HM, ⟨by have := HL.out; have := (Ps.nx_len HN5.out).1; have := (Ps.tk_len HT.out).1; have := Ps.ms_len HU.out; omega⟩, ⟨by have := HK.out; omega⟩, ?_, ?_, ⟨Nat.le_refl _⟩, ?_, ?_, ?_⟩
                              · exact ⟨blk_alloc (blk_alloc (blk_put6 BK9.out) _) _⟩
                              · exact ⟨blk_alloc (blk_alloc (by with_reducible (repeat (first | exact BR9.out | refine blk_setNe ?_ (by omega) _ _))) _) _⟩
                              · refine ⟨F_one (x := Ps.op Ps.sIsnull [e]) (A := A1) (c := 1) (blk_alloc (new_blk _ (by simp)) _) ⟨by omega, by omega⟩ (Nat.le_refl _) (Kd.F_alloc (Kd.F_alloc ?_ _) _)⟩
                                with_reducible (repeat (refine Kd.F_far ?_ (fun q hq => hq.2) _))
                                exact HE9.out
                              · exact ⟨((by with_reducible (repeat (first | exact HQ9.out | refine PS.setB ?_ (by omega) (by omega) _ _)) : PS w0 g r7 _).alloc _).alloc _⟩
                              · exact ⟨((by with_reducible (repeat (first | exact HG9.out | refine Gr.setB ?_ (by omega) _ _)) : Gr g w _).alloc _).alloc _⟩
                  · rw [if_neg k3] at hm
                    rw [wIs] at k3
                    have s0 : (s.toList == [105, 115]) = false := beq_eq_false_iff_ne.mpr k3
                    have s1 : (s.toList != [105, 115]) = true := bne_iff_ne.mpr k3
                    clear k3
                    have HC := Aside0.mk (fun wx hx => by rw [wrapb]; exact ihE j (by have := HK.out; omega) w0 g r5 wx (b + 1) hx (by have := HL.out; have := (Ps.nx_len HN5.out).1; omega) : ∀ wx, PS w0 g r5 wx → Calls Tryz.prog 358 #[.pointer (some ⟨g, 0, none⟩), .int .i64 (wrap64 (b + 1))] wx (Out w0 g (Vex wx.heap.size) wx (Ps.expr j (b + 1) r5)))
                    clear wrapb
                    cases hx : Ps.expr j (b + 1) r5 with
                    | none =>
                      rw [hx] at hm
                      have HM := Aside0.mk hm
                      have HX := Aside0.mk hx
                      clear hm hx
                      go_wp2_with (first | (go_at_call 327; refine (peek_calls HQ.out).mono ?_; rintro e w3 ⟨rfl, hb⟩; rw [HS.out]; have hg := Gr.of_below (g := g) hb; have hs3 := hb.size; have BK3 := Aside0.mk (hg.blk BK.out (by omega)); have BR3 := Aside0.mk (hg.blk BR.out (by omega)); have HE3 := Aside0.mk (hg.F HE.out (fun q hq => by omega)); have HQ3 := Aside0.mk (HQ.out.below hb); have HG3 := Aside0.mk (HG.out.trans hg); clear hg hb) | (go_at_call 102; refine (parse_binds.calls 3 _ _ _ BI.out).mono ?_; rintro e w4 ⟨rfl, ⟨nd, rfl⟩⟩) | (go_at_call 258; refine (next_out (HQ3.out.drewN _)).mono ?_; intro e w5 ho; obtain ⟨hg, v, rfl, rfl, hp⟩ := ho.some HN5.out; have hg3 := ((Gr.refl g w3).drewN nd).trans hg; have hs5 := hg3.size; have BK5 := Aside0.mk (hg3.blk BK3.out (by omega)); have BR5 := Aside0.mk (hg3.blk BR3.out (by omega)); have HE5 := Aside0.mk (hg3.F HE3.out (fun q hq => by omega)); have b5c0 : w5.cell? ⟨w2.heap.size, 0, none⟩ = some (.string e.f0) := (blk_cell BK5.out 0).trans rfl; have b5c1 : w5.cell? ⟨w2.heap.size, 1, none⟩ = some (.int .i64 e.f1.f0) := (blk_cell BK5.out 1).trans rfl; have b5c2 : w5.cell? ⟨w2.heap.size, 2, none⟩ = some (.int .i64 e.f1.f1) := (blk_cell BK5.out 2).trans rfl; have b5c3 : w5.cell? ⟨w2.heap.size, 3, none⟩ = some (.string e.f1.f2) := (blk_cell BK5.out 3).trans rfl; have b5c4 : w5.cell? ⟨w2.heap.size, 4, none⟩ = some (.string e.f2) := (blk_cell BK5.out 4).trans rfl; have b5c5 : w5.cell? ⟨w2.heap.size, 5, none⟩ = some (.slice A e.f3.length n) := (blk_cell BK5.out 5).trans rfl; have b5z0 := blk_frozen BK5.out 0; have b5z1 := blk_frozen BK5.out 1; have b5z2 := blk_frozen BK5.out 2; have b5z3 := blk_frozen BK5.out 3; have b5z4 := blk_frozen BK5.out 4; have b5z5 := blk_frozen BK5.out 5; have HQ5 := Aside0.mk hp; have HG5 := Aside0.mk (HG3.out.trans hg3); clear hg hg3 ho hp))
                      refine start_ (n := 9) (S := fun w' => w'.cell? ⟨w2.heap.size, 0, none⟩ = some (.string e.f0) ∧ w'.cell? ⟨w2.heap.size, 1, none⟩ = some (.int .i64 e.f1.f0) ∧ w'.cell? ⟨w2.heap.size, 2, none⟩ = some (.int .i64 e.f1.f1) ∧ w'.cell? ⟨w2.heap.size, 3, none⟩ = some (.string e.f1.f2) ∧ w'.cell? ⟨w2.heap.size, 4, none⟩ = some (.string e.f2) ∧ w'.cell? ⟨w2.heap.size, 5, none⟩ = some (.slice A e.f3.length n)) (ds := [8]) #[false, false, false, false, false, false, false, false, false] (by kernel_rfl) rfl rfl ⟨b5c0, b5c1, b5c2, b5c3, b5c4, b5c5⟩ (fun hHeld => ?_)
                      refine pure_ (i := 0) (N := some 36) (v := ?_) (a' := ?_) #[true, false, false, false, false, false, false, false, false] rfl rfl (by kernel_rfl) (fun _ _ _ h => h) (Or.inl ⟨by rfl, ?_⟩) ?_ ?_
                      rotate_left
                      · intro w'
                        go_simp
                        with_reducible rfl
                      rotate_left
                      · simp only [Act.put, List.setIfInBounds_toArray, List.set_cons_zero, List.set_cons_succ, i64_w, i32_w]
                        rfl
                      refine take_ (i := 1) (N := some 37) (v := ?_) (a' := ?_) #[true, true, false, false, false, false, false, false, false] rfl rfl (by kernel_rfl) (fun _ _ _ h => h) (Or.inl ⟨by rfl, ?_⟩) hHeld ?_ ?_
                      rotate_left
                      · rintro w' ⟨s0, s1, s2, s3, s4, s5⟩
                        go_simp
                        with_reducible rfl
                      rotate_left
                      · simp only [Act.put, List.setIfInBounds_toArray, List.set_cons_zero, List.set_cons_succ, i64_w, i32_w]
                        rfl
                      refine pure_ (i := 2) (N := some 38) (v := ?_) (a' := ?_) #[true, true, true, false, false, false, false, false, false] rfl rfl (by kernel_rfl) (fun _ _ _ h => h) (Or.inl ⟨by rfl, ?_⟩) ?_ ?_
                      rotate_left
                      · intro w'
                        go_simp
                        with_reducible rfl
                      rotate_left
                      · simp only [Act.put, List.setIfInBounds_toArray, List.set_cons_zero, List.set_cons_succ, i64_w, i32_w]
                        rfl
                      refine pure_ (i := 3) (N := some 39) (v := ?_) (a' := ?_) #[true, true, true, true, false, false, false, false, false] rfl rfl (by kernel_rfl) (fun _ _ _ h => h) (Or.inl ⟨by rfl, ?_⟩) ?_ ?_
                      rotate_left
                      · intro w'
                        go_simp
                        with_reducible rfl
                      rotate_left
                      · simp only [Act.put, List.setIfInBounds_toArray, List.set_cons_zero, List.set_cons_succ, i64_w, i32_w]
                        rfl
                      refine pure_ (i := 4) (N := some 40) (v := ?_) (a' := ?_) #[true, true, true, true, true, false, false, false, false] rfl rfl (by kernel_rfl) (fun _ _ _ h => h) (Or.inl ⟨by rfl, ?_⟩) ?_ ?_
                      rotate_left
                      · intro w'
                        go_simp
                        with_reducible rfl
                      rotate_left
                      · simp only [Act.put, List.setIfInBounds_toArray, List.set_cons_zero, List.set_cons_succ, i64_w, i32_w]
                        rfl
                      refine one_ (i := 5) (N := some 41) #[true, true, true, true, true, true, false, false, false] rfl rfl (by kernel_rfl) (by decide) (fun K hK => ?_)
                      refine goesP_ Tryz.func358 (by kernel_rfl) rfl #[.pointer (some ⟨g, 0, none⟩), .int .i64 (wrap64 (b + 1))] (by rfl) rfl (by (try simp only [List.map_toArray, List.map_cons, List.map_nil]); first | done | rfl) (ch := failedV) ?_
                      refine (HC.out w5.drew (HQ5.out.below (below_drew1 (Below.refl _ _)))).mono ?_
                      intro e w7 ho
                      obtain ⟨hg, rfl⟩ := ho.none HX.out
                      exact ⟨rfl, ⟨rfl, Out.of_none HM.out.symm ((HG5.out.step (below_drew1 (Below.refl _ _))).trans hg)⟩⟩
                      
                    | some p =>
                      obtain ⟨x, r6⟩ := p
                      rw [hx] at hm
                      have HM := Aside0.mk hm
                      have HX := Aside0.mk hx
                      clear hm hx
                      go_wp2_with (first | (go_at_call 327; refine (peek_calls HQ.out).mono ?_; rintro e w3 ⟨rfl, hb⟩; rw [HS.out]; have hg := Gr.of_below (g := g) hb; have hs3 := hb.size; have BK3 := Aside0.mk (hg.blk BK.out (by omega)); have BR3 := Aside0.mk (hg.blk BR.out (by omega)); have HE3 := Aside0.mk (hg.F HE.out (fun q hq => by omega)); have HQ3 := Aside0.mk (HQ.out.below hb); have HG3 := Aside0.mk (HG.out.trans hg); clear hg hb) | (go_at_call 102; refine (parse_binds.calls 3 _ _ _ BI.out).mono ?_; rintro e w4 ⟨rfl, ⟨nd, rfl⟩⟩) | (go_at_call 258; refine (next_out (HQ3.out.drewN _)).mono ?_; intro e w5 ho; obtain ⟨hg, v, rfl, rfl, hp⟩ := ho.some HN5.out; have hg3 := ((Gr.refl g w3).drewN nd).trans hg; have hs5 := hg3.size; have BK5 := Aside0.mk (hg3.blk BK3.out (by omega)); have BR5 := Aside0.mk (hg3.blk BR3.out (by omega)); have HE5 := Aside0.mk (hg3.F HE3.out (fun q hq => by omega)); have b5c0 : w5.cell? ⟨w2.heap.size, 0, none⟩ = some (.string e.f0) := (blk_cell BK5.out 0).trans rfl; have b5c1 : w5.cell? ⟨w2.heap.size, 1, none⟩ = some (.int .i64 e.f1.f0) := (blk_cell BK5.out 1).trans rfl; have b5c2 : w5.cell? ⟨w2.heap.size, 2, none⟩ = some (.int .i64 e.f1.f1) := (blk_cell BK5.out 2).trans rfl; have b5c3 : w5.cell? ⟨w2.heap.size, 3, none⟩ = some (.string e.f1.f2) := (blk_cell BK5.out 3).trans rfl; have b5c4 : w5.cell? ⟨w2.heap.size, 4, none⟩ = some (.string e.f2) := (blk_cell BK5.out 4).trans rfl; have b5c5 : w5.cell? ⟨w2.heap.size, 5, none⟩ = some (.slice A e.f3.length n) := (blk_cell BK5.out 5).trans rfl; have b5z0 := blk_frozen BK5.out 0; have b5z1 := blk_frozen BK5.out 1; have b5z2 := blk_frozen BK5.out 2; have b5z3 := blk_frozen BK5.out 3; have b5z4 := blk_frozen BK5.out 4; have b5z5 := blk_frozen BK5.out 5; have HQ5 := Aside0.mk hp; have HG5 := Aside0.mk (HG3.out.trans hg3); clear hg hg3 ho hp))
                      refine start_ (n := 9) (S := fun w' => w'.cell? ⟨w2.heap.size, 0, none⟩ = some (.string e.f0) ∧ w'.cell? ⟨w2.heap.size, 1, none⟩ = some (.int .i64 e.f1.f0) ∧ w'.cell? ⟨w2.heap.size, 2, none⟩ = some (.int .i64 e.f1.f1) ∧ w'.cell? ⟨w2.heap.size, 3, none⟩ = some (.string e.f1.f2) ∧ w'.cell? ⟨w2.heap.size, 4, none⟩ = some (.string e.f2) ∧ w'.cell? ⟨w2.heap.size, 5, none⟩ = some (.slice A e.f3.length n)) (ds := [8]) #[false, false, false, false, false, false, false, false, false] (by kernel_rfl) rfl rfl ⟨b5c0, b5c1, b5c2, b5c3, b5c4, b5c5⟩ (fun hHeld => ?_)
                      refine pure_ (i := 0) (N := some 36) (v := ?_) (a' := ?_) #[true, false, false, false, false, false, false, false, false] rfl rfl (by kernel_rfl) (fun _ _ _ h => h) (Or.inl ⟨by rfl, ?_⟩) ?_ ?_
                      rotate_left
                      · intro w'
                        go_simp
                        with_reducible rfl
                      rotate_left
                      · simp only [Act.put, List.setIfInBounds_toArray, List.set_cons_zero, List.set_cons_succ, i64_w, i32_w]
                        rfl
                      refine take_ (i := 1) (N := some 37) (v := ?_) (a' := ?_) #[true, true, false, false, false, false, false, false, false] rfl rfl (by kernel_rfl) (fun _ _ _ h => h) (Or.inl ⟨by rfl, ?_⟩) hHeld ?_ ?_
                      rotate_left
                      · rintro w' ⟨s0, s1, s2, s3, s4, s5⟩
                        go_simp
                        with_reducible rfl
                      rotate_left
                      · simp only [Act.put, List.setIfInBounds_toArray, List.set_cons_zero, List.set_cons_succ, i64_w, i32_w]
                        rfl
                      refine pure_ (i := 2) (N := some 38) (v := ?_) (a' := ?_) #[true, true, true, false, false, false, false, false, false] rfl rfl (by kernel_rfl) (fun _ _ _ h => h) (Or.inl ⟨by rfl, ?_⟩) ?_ ?_
                      rotate_left
                      · intro w'
                        go_simp
                        with_reducible rfl
                      rotate_left
                      · simp only [Act.put, List.setIfInBounds_toArray, List.set_cons_zero, List.set_cons_succ, i64_w, i32_w]
                        rfl
                      refine pure_ (i := 3) (N := some 39) (v := ?_) (a' := ?_) #[true, true, true, true, false, false, false, false, false] rfl rfl (by kernel_rfl) (fun _ _ _ h => h) (Or.inl ⟨by rfl, ?_⟩) ?_ ?_
                      rotate_left
                      · intro w'
                        go_simp
                        with_reducible rfl
                      rotate_left
                      · simp only [Act.put, List.setIfInBounds_toArray, List.set_cons_zero, List.set_cons_succ, i64_w, i32_w]
                        rfl
                      refine pure_ (i := 4) (N := some 40) (v := ?_) (a' := ?_) #[true, true, true, true, true, false, false, false, false] rfl rfl (by kernel_rfl) (fun _ _ _ h => h) (Or.inl ⟨by rfl, ?_⟩) ?_ ?_
                      rotate_left
                      · intro w'
                        go_simp
                        with_reducible rfl
                      rotate_left
                      · simp only [Act.put, List.setIfInBounds_toArray, List.set_cons_zero, List.set_cons_succ, i64_w, i32_w]
                        rfl
                      refine one_ (i := 5) (N := some 41) #[true, true, true, true, true, true, false, false, false] rfl rfl (by kernel_rfl) (by decide) (fun K hK => ?_)
                      refine goes_ Tryz.func358 (by kernel_rfl) rfl #[.pointer (some ⟨g, 0, none⟩), .int .i64 (wrap64 (b + 1))] (by rfl) rfl rfl (by (try simp only [List.map_toArray, List.map_cons, List.map_nil]); first | done | rfl) ?_
                      refine (HC.out w5.drew (HQ5.out.below (below_drew1 (Below.refl _ _)))).mono ?_
                      intro e7 w7 ho
                      obtain ⟨hg, v, rfl, hv, hp⟩ := ho.some HX.out
                      obtain ⟨Ax, nx, rfl, hnx, hfx⟩ := hv
                      refine ⟨_, rfl, ?_⟩
                      have hg5 := ((Gr.refl g w5).step (below_drew1 (Below.refl _ _))).trans hg
                      have hs7 := hg5.size
                      have BK7 := Aside0.mk (hg5.blk BK5.out (by omega))
                      have BR7 := Aside0.mk (hg5.blk BR5.out (by omega))
                      have HE7 := Aside0.mk (hg5.F HE5.out (fun q hq => by omega))
                      have b7c0 : w7.cell? ⟨w2.heap.size, 0, none⟩ = some (.string e.f0) := (blk_cell BK7.out 0).trans rfl
                      have b7c1 : w7.cell? ⟨w2.heap.size, 1, none⟩ = some (.int .i64 e.f1.f0) := (blk_cell BK7.out 1).trans rfl
                      have b7c2 : w7.cell? ⟨w2.heap.size, 2, none⟩ = some (.int .i64 e.f1.f1) := (blk_cell BK7.out 2).trans rfl
                      have b7c3 : w7.cell? ⟨w2.heap.size, 3, none⟩ = some (.string e.f1.f2) := (blk_cell BK7.out 3).trans rfl
                      have b7c4 : w7.cell? ⟨w2.heap.size, 4, none⟩ = some (.string e.f2) := (blk_cell BK7.out 4).trans rfl
                      have b7c5 : w7.cell? ⟨w2.heap.size, 5, none⟩ = some (.slice A e.f3.length n) := (blk_cell BK7.out 5).trans rfl
                      have b7z0 := blk_frozen BK7.out 0
                      have b7z1 := blk_frozen BK7.out 1
                      have b7z2 := blk_frozen BK7.out 2
                      have b7z3 := blk_frozen BK7.out 3
                      have b7z4 := blk_frozen BK7.out 4
                      have b7z5 := blk_frozen BK7.out 5
                      have HQ7 := Aside0.mk hp
                      have HG7 := Aside0.mk (HG5.out.trans hg5)
                      have HNX := Aside0.mk hnx
                      have HFX := Aside0.mk (Kd.F_mono hfx (ok' := fun q => w.heap.size < q ∧ q ≠ w2.heap.size) (fun q hq => by have h1 : w5.heap.size ≤ q := hq; exact ⟨by omega, by omega⟩))
                      clear hg hg5 ho hp hnx hfx
                      refine hK.out _ _ ⟨b7c0, b7c1, b7c2, b7c3, b7c4, b7c5⟩ (fun hHeld => ?_)
                      clear hK K
                      refine norm_ (a' := ?_) ?_ ?_
                      rotate_left
                      · show Act.put _ (some 41) _ = _
                        simp only [Act.put, List.setIfInBounds_toArray, List.set_cons_zero, List.set_cons_succ, i64_w, i32_w]
                        rfl
                      refine one_ (i := 6) (N := some 42) #[true, true, true, true, true, true, true, false, false] rfl rfl (by kernel_rfl) (by decide) (fun K hK => ?_)
                      refine value_ (v := .slice (some ⟨w7.heap.size, 0, none⟩) 2 2) (w1 := w7.alloc (.cells (cells43 e A n ++ cells43 x Ax nx).toArray 43)) (by rfl) rfl ?_ ?_
                      · unfold cells43
                        go_simp
                      refine hK.out _ _ ⟨blkc_alloc BK7.out 0 rfl, blkc_alloc BK7.out 1 rfl, blkc_alloc BK7.out 2 rfl, blkc_alloc BK7.out 3 rfl, blkc_alloc BK7.out 4 rfl, blkc_alloc BK7.out 5 rfl⟩ (fun hHeld => ?_)
                      clear hK K
                      refine norm_ (a' := ?_) ?_ ?_
                      rotate_left
                      · show Act.put _ (some 42) _ = _
                        simp only [Act.put, List.setIfInBounds_toArray, List.set_cons_zero, List.set_cons_succ, i64_w, i32_w]
                        rfl
                      refine one_ (i := 7) (N := some 43) #[true, true, true, true, true, true, true, true, false] rfl rfl (by kernel_rfl) (by decide) (fun K hK => ?_)
                      refine goes_ Tryz.func369 (by kernel_rfl) rfl #[.string s, .slice (some ⟨w7.heap.size, 0, none⟩) 2 2] (by rfl) rfl rfl (by (try simp only [List.map_toArray, List.map_cons, List.map_nil]); first | done | rfl) ?_
                      refine (op_calls _ _ _ _ _).mono ?_
                      rintro e8 w8 ⟨rfl, o8, rfl⟩
                      refine ⟨_, rfl, ?_⟩
                      refine hK.out _ _ ⟨blkc_alloc (blk_alloc BK7.out _) 0 rfl, blkc_alloc (blk_alloc BK7.out _) 1 rfl, blkc_alloc (blk_alloc BK7.out _) 2 rfl, blkc_alloc (blk_alloc BK7.out _) 3 rfl, blkc_alloc (blk_alloc BK7.out _) 4 rfl, blkc_alloc (blk_alloc BK7.out _) 5 rfl⟩ (fun hHeld => ?_)
                      clear hK K
                      refine norm_ (a' := ?_) ?_ ?_
                      rotate_left
                      · show Act.put _ (some 43) _ = _
                        simp only [Act.put, List.setIfInBounds_toArray, List.set_cons_zero, List.set_cons_succ, i64_w, i32_w]
                        rfl
                      refine last_ (i := 8) (N := none) #[true, true, true, true, true, true, true, true, true] rfl rfl (by kernel_rfl) (by decide) (fun K hK => ?_)
                      have hb7 : w2.heap.size < w7.heap.size := blk_lt BK7.out
                      refine skip_ (w1 := ((((((((w7.alloc (.cells (cells43 e A n ++ cells43 x Ax nx).toArray 43)).alloc o8).setCell ⟨w2.heap.size, 0, none⟩ (.string s)).setCell ⟨w2.heap.size, 1, none⟩ (.int .i64 0)).setCell ⟨w2.heap.size, 2, none⟩ (.int .i64 0)).setCell ⟨w2.heap.size, 3, none⟩ (.string ⟨#[]⟩)).setCell ⟨w2.heap.size, 4, none⟩ (.string ⟨#[]⟩)).setCell ⟨w2.heap.size, 5, none⟩ (.slice (some ⟨w7.heap.size, 0, none⟩) 2 2))) (by rfl) rfl ?_ ?_
                      · unfold cells43
                        go_simp
                      refine hK.out _ _ ?_
                      clear hK K
                      refine done_ (by kernel_rfl) ?_
                      go_wp2
                      go_roundg j
                      case measure => have := HL.out; omega
                      case rel =>
                        refine ⟨Ps.op s [e, x], some ⟨w7.heap.size, 0, none⟩, 2, r6, HM, ⟨by have := HL.out; have := (Ps.nx_len HN5.out).1; have := Ps.expr_len HX.out; omega⟩, ⟨by have := HK.out; omega⟩, ⟨blk_put6 (blk_alloc (blk_alloc BK7.out _) _)⟩, ?_, ⟨Nat.le_refl _⟩, ?_, ?_, ?_⟩
                        · exact ⟨by with_reducible (repeat (first | exact blk_alloc (blk_alloc BR7.out _) _ | refine blk_setNe ?_ (by omega) _ _))⟩
                        · refine ⟨F_two (x := e) (y := x) (A := A) (c := n) (A' := Ax) (c' := nx) ?_ ⟨by omega, by omega⟩ HN.out ?_ HNX.out ?_⟩
                          · with_reducible (repeat (first | exact blk_alloc (new_blk _ rfl) _ | refine blk_setNe ?_ (by omega) _ _))
                          · with_reducible (repeat (first | exact Kd.F_alloc (Kd.F_alloc HE7.out _) _ | refine Kd.F_far ?_ (fun q hq => hq.2) _))
                          · with_reducible (repeat (first | exact Kd.F_alloc (Kd.F_alloc HFX.out _) _ | refine Kd.F_far ?_ (fun q hq => hq.2) _))
                        · exact ⟨by with_reducible (repeat (first | exact (HQ7.out.alloc _).alloc _ | refine PS.setB ?_ (by omega) (by omega) _ _))⟩
                        · exact ⟨by with_reducible (repeat (first | exact (HG7.out.alloc _).alloc _ | refine Gr.setB ?_ (by omega) _ _))⟩
end Go.Proofs.YtcgdncpioafbdaaGreatDoor.Q

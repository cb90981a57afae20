/- The parser of layer 17 as plain functions over tokens: what the walks show that it computes. None: it gives up (its panic), or the rounds are used up. -/
import Derived.Test.YtcgdncpioafbdaaGreatDoorP0
namespace Go.Proofs.YtcgdncpioafbdaaGreatDoor.Ps
open Go Go.Proofs.YtcgdncpioafbdaaGreatDoor.Q

abbrev R (α : Type) := Option (α × List S32)
def pk : List S32 → ByteArray
  | [] => ⟨#[]⟩
  | t :: _ => if t.f0 = 1 ∨ t.f0 = 4 then t.f1 else ⟨#[]⟩
def nx : List S32 → R S32
  | [] => none
  | t :: r => if t.f0 = 0 then none else some (t, r)
def tk (s : ByteArray) (ts : List S32) : R Bool := if (pk ts).toList = s.toList then (nx ts).map fun p => (true, p.2) else some (false, ts)
def ms : List ByteArray → List S32 → Option (List S32)
  | [], ts => some ts
  | s :: l, ts => match tk s ts with
    | some (true, r) => ms l r
    | _ => none
def resL : List (List UInt8) := [[99, 114, 101, 97, 116, 101], [116, 97, 98, 108, 101], [100, 114, 111, 112], [105, 110, 115, 101, 114, 116], [105, 110, 116, 111], [118, 97, 108, 117, 101, 115], [115, 101, 108, 101, 99, 116], [102, 114, 111, 109], [119, 104, 101, 114, 101], [111, 114, 100, 101, 114], [98, 121], [100, 101, 115, 99], [108, 105, 109, 105, 116], [117, 112, 100, 97, 116, 101], [115, 101, 116], [100, 101, 108, 101, 116, 101], [97, 110, 100], [111, 114], [110, 111, 116], [105, 115], [110, 117, 108, 108], [105, 110, 116], [116, 101, 120, 116], [100, 101, 116], [107, 101, 121], [99, 111, 117, 110, 116], [115, 117, 109], [109, 105, 110], [109, 97, 120]]
def reserved (w : ByteArray) : Bool := resL.contains w.toList
def nm (ts : List S32) : R ByteArray := match nx ts with
  | none => none
  | some (t, r) => if t.f0 = 1 then if reserved t.f1 = true then none else some (t.f1, r) else none
abbrev sAnd : ByteArray := ⟨#[97, 110, 100]⟩
abbrev sOr : ByteArray := ⟨#[111, 114]⟩
abbrev sNot : ByteArray := ⟨#[110, 111, 116]⟩
abbrev sIs : ByteArray := ⟨#[105, 115]⟩
abbrev sNull : ByteArray := ⟨#[110, 117, 108, 108]⟩
abbrev sMinus : ByteArray := ⟨#[45]⟩
abbrev sOpen : ByteArray := ⟨#[40]⟩
abbrev sClose : ByteArray := ⟨#[41]⟩
abbrev sCount : ByteArray := ⟨#[99, 111, 117, 110, 116]⟩
abbrev sSum : ByteArray := ⟨#[115, 117, 109]⟩
abbrev sMin : ByteArray := ⟨#[109, 105, 110]⟩
abbrev sMax : ByteArray := ⟨#[109, 97, 120]⟩
abbrev sStar : ByteArray := ⟨#[42]⟩
abbrev sNeg : ByteArray := ⟨#[110, 101, 103]⟩
abbrev sIsnull : ByteArray := ⟨#[105, 115, 110, 117, 108, 108]⟩
abbrev sVal : ByteArray := ⟨#[118, 97, 108]⟩
abbrev sCol : ByteArray := ⟨#[99, 111, 108]⟩
abbrev sComma : ByteArray := ⟨#[44]⟩
abbrev sWhere : ByteArray := ⟨#[119, 104, 101, 114, 101]⟩
abbrev sText : ByteArray := ⟨#[116, 101, 120, 116]⟩
abbrev sInt : ByteArray := ⟨#[105, 110, 116]⟩
abbrev sDet : ByteArray := ⟨#[100, 101, 116]⟩
abbrev sKey : ByteArray := ⟨#[107, 101, 121]⟩
abbrev sEq : ByteArray := ⟨#[61]⟩
abbrev sFrom : ByteArray := ⟨#[102, 114, 111, 109]⟩
abbrev sOrder : ByteArray := ⟨#[111, 114, 100, 101, 114]⟩
abbrev sBy : ByteArray := ⟨#[98, 121]⟩
abbrev sDesc : ByteArray := ⟨#[100, 101, 115, 99]⟩
abbrev sLimit : ByteArray := ⟨#[108, 105, 109, 105, 116]⟩
abbrev sTable : ByteArray := ⟨#[116, 97, 98, 108, 101]⟩
abbrev sInto : ByteArray := ⟨#[105, 110, 116, 111]⟩
abbrev sValues : ByteArray := ⟨#[118, 97, 108, 117, 101, 115]⟩
abbrev sSet : ByteArray := ⟨#[115, 101, 116]⟩
abbrev sCreate : ByteArray := ⟨#[99, 114, 101, 97, 116, 101]⟩
abbrev sDrop : ByteArray := ⟨#[100, 114, 111, 112]⟩
abbrev sInsert : ByteArray := ⟨#[105, 110, 115, 101, 114, 116]⟩
abbrev sSelect : ByteArray := ⟨#[115, 101, 108, 101, 99, 116]⟩
abbrev sUpdate : ByteArray := ⟨#[117, 112, 100, 97, 116, 101]⟩
abbrev sDelete : ByteArray := ⟨#[100, 101, 108, 101, 116, 101]⟩
abbrev sSemi : ByteArray := ⟨#[59]⟩

def binds (s : ByteArray) : Int :=
  if s.toList = [111, 114] then 1 else if s.toList = [97, 110, 100] then 2
  else if [[61], [60, 62], [60], [60, 61], [62], [62, 61], [105, 115]].contains s.toList then 4
  else if [[43], [45], [124, 124]].contains s.toList then 5
  else if [[42], [47], [37]].contains s.toList then 6 else 0
abbrev v0 : S40 := ⟨0, 0, ⟨#[]⟩⟩
def op (s : ByteArray) (kids : List S43) : S43 := ⟨s, v0, ⟨#[]⟩, kids⟩
def val (v : S40) : S43 := ⟨sVal, v, ⟨#[]⟩, []⟩

mutual
def expr : Nat → Int → List S32 → R S43
  | 0, _, _ => none
  | k + 1, least, ts => if (pk ts).toList = sNot.toList ∧ least > 3 then none else match first k ts with
    | none => none
    | some (e, r) => more k least e r
def more : Nat → Int → S43 → List S32 → R S43
  | 0, _, _, _ => none
  | k + 1, least, e, ts =>
    if binds (pk ts) = 0 then some (e, ts) else if binds (pk ts) < least then some (e, ts) else match nx ts with
    | none => none
    | some (_, r) => if (pk ts).toList = sIs.toList then (match tk sNot r with
        | none => none
        | some (no, r1) => match ms [sNull] r1 with
          | none => none
          | some r2 => more k least (if no = true then op sNot [op sIsnull [e]] else op sIsnull [e]) r2)
      else match expr k (binds (pk ts) + 1) r with
        | none => none
        | some (x, r1) => more k least (op (pk ts) [e, x]) r1
def first : Nat → List S32 → R S43
  | 0, _ => none
  | k + 1, ts => match nx ts with
    | none => none
    | some (t, r) =>
      if t.f0 = 2 then some (val ⟨1, t.f2, ⟨#[]⟩⟩, r)
      else if t.f0 = 3 then some (val ⟨2, 0, t.f1⟩, r)
      else if t.f1.toList = sNot.toList then (match expr k 3 r with
        | none => none
        | some (e, r1) => some (op sNot [e], r1))
      else if t.f1.toList = sMinus.toList then (match expr k 7 r with
        | none => none
        | some (e, r1) => some (op sNeg [e], r1))
      else if t.f1.toList = sNull.toList then some (val v0, r)
      else if t.f1.toList = sOpen.toList then (match expr k 0 r with
        | none => none
        | some (e, r1) => match ms [sClose] r1 with
          | none => none
          | some r2 => some (e, r2))
      else if t.f1.toList = sCount.toList then (match ms [sOpen, sStar, sClose] r with
        | none => none
        | some r1 => some (op sCount [], r1))
      else if t.f1.toList = sSum.toList ∨ t.f1.toList = sMin.toList ∨ t.f1.toList = sMax.toList then (match ms [sOpen] r with
        | none => none
        | some r1 => match expr k 0 r1 with
          | none => none
          | some (e, r2) => match ms [sClose] r2 with
            | none => none
            | some r3 => some (op t.f1 [e], r3))
      else if t.f0 = 1 then if reserved t.f1 = true then none else some (⟨sCol, v0, t.f1, []⟩, r) else none
end

/-- Things with commas between; a state goes along. -/
def lst {α σ : Type} (one : σ → List S32 → Option ((α × σ) × List S32)) : Nat → List α → σ → List S32 → Option ((List α × σ) × List S32)
  | 0, _, _, _ => none
  | k + 1, acc, st, ts => match tk sComma ts with
    | none => none
    | some (false, r) => some ((acc, st), r)
    | some (true, r) => match one st r with
      | none => none
      | some ((x, st1), r1) => lst one k (acc ++ [x]) st1 r1
def list {α σ : Type} (one : σ → List S32 → Option ((α × σ) × List S32)) (k : Nat) (st : σ) (ts : List S32) : Option ((List α × σ) × List S32) := match one st ts with
  | none => none
  | some ((x, st1), r) => lst one k [x] st1 r

def whr (k : Nat) (ts : List S32) : R (List S43) := match tk sWhere ts with
  | none => none
  | some (false, r) => some ([], r)
  | some (true, r) => match expr k 0 r with
    | none => none
    | some (e, r1) => some ([e], r1)
def colB (key c : ByteArray) (kind : Int) (ts : List S32) : Option ((S128 × ByteArray) × List S32) := match tk sDet ts with
  | none => none
  | some (d, r) => match tk sKey r with
    | none => none
    | some (false, r1) => some ((⟨c, kind, if d = true then 1 else 0⟩, key), r1)
    | some (true, r1) => if key.toList = [] then some ((⟨c, kind, if d = true then 1 else 0⟩, c), r1) else none
def column (key : ByteArray) (ts : List S32) : Option ((S128 × ByteArray) × List S32) := match nm ts with
  | none => none
  | some (c, r) => match tk sText r with
    | none => none
    | some (true, r1) => colB key c 2 r1
    | some (false, r1) => match ms [sInt] r1 with
      | none => none
      | some r2 => colB key c 1 r2
def anyU (k : Nat) (_ : Unit) (ts : List S32) : Option ((S43 × Unit) × List S32) := match expr k 0 ts with
  | none => none
  | some (e, r) => some ((e, ()), r)
def lists (k : Nat) (ts : List S32) : R (List S43) := match list (anyU k) k () ts with
  | none => none
  | some ((l, _), r) => some (l, r)
def row (k : Nat) (ts : List S32) : R (List S43) := match ms [sOpen] ts with
  | none => none
  | some r => match lists k r with
    | none => none
    | some (l, r1) => match ms [sClose] r1 with
      | none => none
      | some r2 => some (l, r2)
def rowU (k : Nat) (_ : Unit) (ts : List S32) : Option ((List S43 × Unit) × List S32) := match row k ts with
  | none => none
  | some (e, r) => some ((e, ()), r)
def set (k : Nat) (ts : List S32) : R S90 := match nm ts with
  | none => none
  | some (c, r) => match ms [sEq] r with
    | none => none
    | some r1 => match expr k 0 r1 with
      | none => none
      | some (e, r2) => some (⟨c, e⟩, r2)
def setU (k : Nat) (_ : Unit) (ts : List S32) : Option ((S90 × Unit) × List S32) := match set k ts with
  | none => none
  | some (e, r) => some ((e, ()), r)
def chooseL (s : S60) (ts : List S32) : R S60 := match tk sLimit ts with
  | none => none
  | some (false, r) => some (s, r)
  | some (true, r) => match nx r with
    | none => none
    | some (t, r1) => if t.f0 = 2 then some ({ s with f10 := t.f2 }, r1) else none
def chooseO (s : S60) (ts : List S32) : R S60 := match tk sOrder ts with
  | none => none
  | some (false, r) => chooseL s r
  | some (true, r) => match ms [sBy] r with
    | none => none
    | some r1 => match nm r1 with
      | none => none
      | some (o, r2) => match tk sDesc r2 with
        | none => none
        | some (d, r3) => chooseL { s with f8 := o, f9 := d } r3
def chooseF (k : Nat) (s : S60) (ts : List S32) : R S60 := match ms [sFrom] ts with
  | none => none
  | some r => match nm r with
    | none => none
    | some (t, r1) => match whr k r1 with
      | none => none
      | some (w, r2) => chooseO { s with f1 := t, f7 := w } r2
def choose (k : Nat) (s : S60) (ts : List S32) : R S60 := match tk sStar ts with
  | none => none
  | some (true, r) => chooseF k s r
  | some (false, r) => match lists k r with
    | none => none
    | some (l, r1) => chooseF k { s with f5 := l } r1
def st0 : S60 := { z60 with f10 := -1 }
/-- What stands behind a statement. -/
def fin (s : S60) (ts : List S32) : Option S60 := match tk sSemi ts with
  | none => none
  | some (_, r) => match r with
    | [] => none
    | t :: _ => if t.f0 = 0 then some s else none
/-- Words, and a name behind them. -/
def head (l : List ByteArray) (ts : List S32) : R ByteArray := match ms l ts with
  | none => none
  | some r => nm r
def stmt (k : Nat) (ts : List S32) : Option S60 := match nx ts with
  | none => none
  | some (t, r) =>
    if t.f1.toList = sCreate.toList then (match head [sTable] r with
      | none => none
      | some (n, r1) => match ms [sOpen] r1 with
        | none => none
        | some r2 => match list column k ⟨#[]⟩ r2 with
          | none => none
          | some ((l, key), r3) => match ms [sClose] r3 with
            | none => none
            | some r4 => if key.toList = [] then none else fin { st0 with f0 := 1, f1 := n, f2 := l, f3 := key } r4)
    else if t.f1.toList = sDrop.toList then (match head [sTable] r with
      | none => none
      | some (n, r1) => fin { st0 with f0 := 2, f1 := n } r1)
    else if t.f1.toList = sInsert.toList then (match head [sInto] r with
      | none => none
      | some (n, r1) => match ms [sValues] r1 with
        | none => none
        | some r2 => match list (rowU k) k () r2 with
          | none => none
          | some ((l, _), r3) => fin { st0 with f0 := 3, f1 := n, f4 := l } r3)
    else if t.f1.toList = sSelect.toList then (match choose k { st0 with f0 := 4 } r with
      | none => none
      | some (s, r1) => fin s r1)
    else if t.f1.toList = sUpdate.toList then (match nm r with
      | none => none
      | some (n, r1) => match ms [sSet] r1 with
        | none => none
        | some r2 => match list (setU k) k () r2 with
          | none => none
          | some ((l, _), r3) => match whr k r3 with
            | none => none
            | some (w, r4) => fin { st0 with f0 := 5, f1 := n, f6 := l, f7 := w } r4)
    else if t.f1.toList = sDelete.toList then (match head [sFrom] r with
      | none => none
      | some (n, r1) => match whr k r1 with
        | none => none
        | some (w, r2) => fin { st0 with f0 := 6, f1 := n, f7 := w } r2)
    else none
def read (k : Nat) (ts : List S32) : Option S60 := match ts with
  | [] => none
  | t :: _ => if t.f0 = 1 then stmt k ts else none
end Go.Proofs.YtcgdncpioafbdaaGreatDoor.Ps

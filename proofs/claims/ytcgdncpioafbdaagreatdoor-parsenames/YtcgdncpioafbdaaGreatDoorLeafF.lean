/- What the library's functions that this seat calls give, as plain functions (the calls: Leaf.lean). None where a bound of the contract's is not met. -/
import Derived.Lib.Bytealg
import Derived.Test.YtcgdncpioafbdaaGreatDoorLexA
namespace Go.Proofs.YtcgdncpioafbdaaGreatDoor.Q
open Go

def ba (l : List UInt8) : ByteArray := ⟨l.toArray⟩
theorem ba_data (l : List UInt8) : (ba l).data.toList = l := by simp [ba]
theorem ba_size (l : List UInt8) : (ba l).size = l.length := by simp [ba, ByteArray.size]
theorem ba_of (s : ByteArray) : ba s.data.toList = s := by cases s; simp [ba]

def strings_TrimLeft.f (s c : ByteArray) : Option ByteArray := if c.data.toList = [32, 9, 10, 13] then some (ba (s.data.toList.dropWhile ([32, 9, 10, 13].contains ·))) else none
def strings_HasPrefix.f (s p : ByteArray) : Option Bool := some (p.data.toList.isPrefixOf s.data.toList)
def strings_Cut.f (s p : ByteArray) : Option (ByteArray × ByteArray × Bool) :=
  if p.data.toList = [10] then if s.size < 4294967281 then some (ba (s.data.toList.takeWhile (· != 10)), ba ((s.data.toList.dropWhile (· != 10)).drop 1), s.data.toList.contains 10) else none else none
def strings_IndexByte.f (s : ByteArray) (c : Int) : Option Int := some (Lib.indexByte s.data.toList c.toNat.toUInt8)
def lex_cutLeft.f (s set : ByteArray) : Option ByteArray := if set.data.toList.all (fun x => x.toNat < 128) = true then if s.size ≤ 9223372036854775807 then some (ba (s.data.toList.dropWhile (set.data.toList.contains ·))) else none else none
def strings_ToLower.f (s : ByteArray) : Option ByteArray := if s.data.toList.all (fun x => x.toNat < 128) = true then if s.size ≤ 140737488355328 then some (ba (s.data.toList.map Lx.lowerB)) else none else none
/-- Each quote twice. -/
def dupQ : List UInt8 → List UInt8
  | [] => []
  | c :: r => if c == 39 then 39 :: 39 :: dupQ r else c :: dupQ r
def strings_ReplaceAll.f (s o n : ByteArray) : Option ByteArray := if o.data.toList = [39] then if n.data.toList = [39, 39] then if s.size < 4294967281 then some (ba (dupQ s.data.toList)) else none else none else none
/-- A number's digits; so many rounds. -/
def digA : Nat → Nat → List UInt8
  | 0, _ => []
  | k + 1, n => if n < 10 then [UInt8.ofNat (48 + n)] else digA k (n / 10) ++ [UInt8.ofNat (48 + n % 10)]
def digits (n : Nat) : List UInt8 := digA 20 n
def strconv_FormatInt.f (n b : Int) : Option ByteArray := if b = 10 then if 0 ≤ n then if n ≤ 9223372036854775807 then some (ba (digits n.toNat)) else none else none else none
/-- With a blank between any two. -/
def joinB : List (List UInt8) → List UInt8
  | [] => []
  | [x] => x
  | x :: y :: r => x ++ 32 :: joinB (y :: r)
def strings_Join.f (l : List ByteArray) (p : ByteArray) : Option ByteArray := if p.data.toList = [32] then if l.length ≤ 140737488355328 then if (joinB (l.map (·.data.toList))).length ≤ 140737488355328 then some (ba (joinB (l.map (·.data.toList)))) else none else none else none
end Go.Proofs.YtcgdncpioafbdaaGreatDoor.Q

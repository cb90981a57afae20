/- The tokens of a text as the seat's values: what both lexers give. -/
import Derived.Test.YtcgdncpioafbdaaGreatDoorQ0
import Derived.Test.YtcgdncpioafbdaaGreatDoorLeafF
namespace Go.Proofs.YtcgdncpioafbdaaGreatDoor.Q
open Go

def tk32 (t : Lx.Tk) : S32 := ⟨t.kind, ba t.s, t.n⟩
def tokF (s : ByteArray) : Option (List S32 × Int) := match Lx.lexA s.data.toList with
  | .error e => some ([], (e : Int))
  | .ok ts => some (ts.map tk32 ++ [z32], 0)
def lex_Tokens.f (s : ByteArray) : Option (List S32 × Int) := tokF s
def vidimusref16_Tokens.f (s : ByteArray) : Option (List S32 × Int) := tokF s
end Go.Proofs.YtcgdncpioafbdaaGreatDoor.Q

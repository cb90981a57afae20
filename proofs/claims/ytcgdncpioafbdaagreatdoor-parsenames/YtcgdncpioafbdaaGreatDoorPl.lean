/- The parser's words as lists of bytes. -/
import Derived.Test.YtcgdncpioafbdaaGreatDoorPs
import Derived.Lib.Strings
namespace Go.Proofs.YtcgdncpioafbdaaGreatDoor.Q
open Go
theorem wAnd : Ps.sAnd.toList = [97, 110, 100] := (Lib.toList_data _).trans rfl
theorem wOr : Ps.sOr.toList = [111, 114] := (Lib.toList_data _).trans rfl
theorem wNot : Ps.sNot.toList = [110, 111, 116] := (Lib.toList_data _).trans rfl
theorem wIs : Ps.sIs.toList = [105, 115] := (Lib.toList_data _).trans rfl
theorem wNull : Ps.sNull.toList = [110, 117, 108, 108] := (Lib.toList_data _).trans rfl
theorem wMinus : Ps.sMinus.toList = [45] := (Lib.toList_data _).trans rfl
theorem wOpen : Ps.sOpen.toList = [40] := (Lib.toList_data _).trans rfl
theorem wClose : Ps.sClose.toList = [41] := (Lib.toList_data _).trans rfl
theorem wCount : Ps.sCount.toList = [99, 111, 117, 110, 116] := (Lib.toList_data _).trans rfl
theorem wSum : Ps.sSum.toList = [115, 117, 109] := (Lib.toList_data _).trans rfl
theorem wMin : Ps.sMin.toList = [109, 105, 110] := (Lib.toList_data _).trans rfl
theorem wMax : Ps.sMax.toList = [109, 97, 120] := (Lib.toList_data _).trans rfl
theorem wStar : Ps.sStar.toList = [42] := (Lib.toList_data _).trans rfl
theorem wNeg : Ps.sNeg.toList = [110, 101, 103] := (Lib.toList_data _).trans rfl
theorem wIsnull : Ps.sIsnull.toList = [105, 115, 110, 117, 108, 108] := (Lib.toList_data _).trans rfl
theorem wVal : Ps.sVal.toList = [118, 97, 108] := (Lib.toList_data _).trans rfl
theorem wCol : Ps.sCol.toList = [99, 111, 108] := (Lib.toList_data _).trans rfl
theorem wComma : Ps.sComma.toList = [44] := (Lib.toList_data _).trans rfl
theorem wWhere : Ps.sWhere.toList = [119, 104, 101, 114, 101] := (Lib.toList_data _).trans rfl
theorem wText : Ps.sText.toList = [116, 101, 120, 116] := (Lib.toList_data _).trans rfl
theorem wInt : Ps.sInt.toList = [105, 110, 116] := (Lib.toList_data _).trans rfl
theorem wDet : Ps.sDet.toList = [100, 101, 116] := (Lib.toList_data _).trans rfl
theorem wKey : Ps.sKey.toList = [107, 101, 121] := (Lib.toList_data _).trans rfl
theorem wEq : Ps.sEq.toList = [61] := (Lib.toList_data _).trans rfl
theorem wFrom : Ps.sFrom.toList = [102, 114, 111, 109] := (Lib.toList_data _).trans rfl
theorem wOrder : Ps.sOrder.toList = [111, 114, 100, 101, 114] := (Lib.toList_data _).trans rfl
theorem wBy : Ps.sBy.toList = [98, 121] := (Lib.toList_data _).trans rfl
theorem wDesc : Ps.sDesc.toList = [100, 101, 115, 99] := (Lib.toList_data _).trans rfl
theorem wLimit : Ps.sLimit.toList = [108, 105, 109, 105, 116] := (Lib.toList_data _).trans rfl
theorem wTable : Ps.sTable.toList = [116, 97, 98, 108, 101] := (Lib.toList_data _).trans rfl
theorem wInto : Ps.sInto.toList = [105, 110, 116, 111] := (Lib.toList_data _).trans rfl
theorem wValues : Ps.sValues.toList = [118, 97, 108, 117, 101, 115] := (Lib.toList_data _).trans rfl
theorem wSet : Ps.sSet.toList = [115, 101, 116] := (Lib.toList_data _).trans rfl
theorem wCreate : Ps.sCreate.toList = [99, 114, 101, 97, 116, 101] := (Lib.toList_data _).trans rfl
theorem wDrop : Ps.sDrop.toList = [100, 114, 111, 112] := (Lib.toList_data _).trans rfl
theorem wInsert : Ps.sInsert.toList = [105, 110, 115, 101, 114, 116] := (Lib.toList_data _).trans rfl
theorem wSelect : Ps.sSelect.toList = [115, 101, 108, 101, 99, 116] := (Lib.toList_data _).trans rfl
theorem wUpdate : Ps.sUpdate.toList = [117, 112, 100, 97, 116, 101] := (Lib.toList_data _).trans rfl
theorem wDelete : Ps.sDelete.toList = [100, 101, 108, 101, 116, 101] := (Lib.toList_data _).trans rfl
theorem wSemi : Ps.sSemi.toList = [59] := (Lib.toList_data _).trans rfl
end Go.Proofs.YtcgdncpioafbdaaGreatDoor.Q

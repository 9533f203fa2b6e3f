/- SeqBells: a hart that waits goes on when its bell is rung. No condition. -/
import Derived.Test.YtaclekenckkgcaaGreatDoorSSeqBellsa
import Derived.Test.YtaclekenckkgcaaGreatDoorSyAr
import Derived.Test.YtaclekenckkgcaaGreatDoorSyFin
import Derived.Test.YtaclekenckkgcaaGreatDoorSyCut
import Derived.Test.YtaclekenckkgcaaGreatDoorTie
import Derived.Test.YtaclekenckkgcaaGreatDoorCards
import Derived.SevenTiedAt
namespace Go.Proofs.YtaclekenckkgcaaGreatDoor.seqBells
open Go.Sx Go.ChangeShapes Go.WideShapes Go.ChangeAt Go.RowKit
set_option linter.unusedVariables false
set_option linter.unusedSimpArgs false
set_option maxRecDepth 1000000
def ob0 : SObj := .cells [(.slice 7 0 2 2 1), (.ptr 8 0), (.int .i64 (.lit 0))] false
def ob1 : SObj := .cells [(.ptr 12 0), (.bool (.lit false)), (.int .u32 (.lit 0)), (.bool (.lit false))] false
def ob2 : SObj := .cells [(.ptr 13 0), (.bool (.lit false)), (.int .u32 (.lit 0)), (.bool (.lit false))] false
def ob3 : SObj := .cells [(.int .u8 (.lit 243)), (.int .u8 (.lit 32)), (.int .u8 (.lit 64)), (.int .u8 (.lit 241)), (.int .u8 (.lit 99)), (.int .u8 (.lit 154)), (.int .u8 (.lit 0)), (.int .u8 (.lit 0)), (.int .u8 (.lit 131)), (.int .u8 (.lit 33)), (.int .u8 (.lit 192)), (.int .u8 (.lit 3)), (.int .u8 (.lit 55)), (.int .u8 (.lit 1)), (.int .u8 (.lit 0)), (.int .u8 (.lit 64)), (.int .u8 (.lit 35)), (.int .u8 (.lit 34)), (.int .u8 (.lit 49)), (.int .u8 (.lit 0)), (.int .u8 (.lit 111)), (.int .u8 (.lit 0)), (.int .u8 (.lit 0)), (.int .u8 (.lit 0)), (.int .u8 (.lit 115)), (.int .u8 (.lit 80)), (.int .u8 (.lit 68)), (.int .u8 (.lit 48)), (.int .u8 (.lit 115)), (.int .u8 (.lit 80)), (.int .u8 (.lit 4)), (.int .u8 (.lit 48)), (.int .u8 (.lit 115)), (.int .u8 (.lit 80)), (.int .u8 (.lit 88)), (.int .u8 (.lit 48)), (.int .u8 (.lit 115)), (.int .u8 (.lit 0)), (.int .u8 (.lit 80)), (.int .u8 (.lit 16)), (.int .u8 (.lit 147)), (.int .u8 (.lit 130)), (.int .u8 (.lit 18)), (.int .u8 (.lit 0)), (.int .u8 (.lit 111)), (.int .u8 (.lit 0)), (.int .u8 (.lit 0)), (.int .u8 (.lit 0)), (.int .u8 (.lit 0)), (.int .u8 (.lit 0)), (.int .u8 (.lit 0)), (.int .u8 (.lit 0)), (.int .u8 (.lit 0)), (.int .u8 (.lit 0)), (.int .u8 (.lit 0)), (.int .u8 (.lit 0)), (.int .u8 (.lit 0)), (.int .u8 (.lit 0)), (.int .u8 (.lit 0)), (.int .u8 (.lit 0)), (.int .u8 (.bin .and .u32 (.cv .u32 (.var 0)) (.lit 255))), (.int .u8 (.bin .and .u32 (.bin .shr .u32 (.cv .u32 (.var 0)) (.lit 8)) (.lit 255))), (.int .u8 (.bin .and .u32 (.bin .shr .u32 (.cv .u32 (.var 0)) (.lit 16)) (.lit 255))), (.int .u8 (.bin .shr .u32 (.cv .u32 (.var 0)) (.lit 24))), (.int .u8 (.lit 0)), (.int .u8 (.lit 0)), (.int .u8 (.lit 0)), (.int .u8 (.lit 0)), (.int .u8 (.lit 0)), (.int .u8 (.lit 0)), (.int .u8 (.lit 0)), (.int .u8 (.lit 0)), (.int .u8 (.lit 0)), (.int .u8 (.lit 0)), (.int .u8 (.lit 0)), (.int .u8 (.lit 0)), (.int .u8 (.lit 0)), (.int .u8 (.lit 0)), (.int .u8 (.lit 0)), (.int .u8 (.lit 0)), (.int .u8 (.lit 0)), (.int .u8 (.lit 0)), (.int .u8 (.lit 0)), (.int .u8 (.lit 0)), (.int .u8 (.lit 0)), (.int .u8 (.lit 0)), (.int .u8 (.lit 0)), (.int .u8 (.lit 0)), (.int .u8 (.lit 0)), (.int .u8 (.lit 0)), (.int .u8 (.lit 0)), (.int .u8 (.lit 0)), (.int .u8 (.lit 0)), (.int .u8 (.lit 0)), (.int .u8 (.lit 0)), (.int .u8 (.lit 0)), (.int .u8 (.lit 0)), (.int .u8 (.lit 0)), (.int .u8 (.lit 0)), (.int .u8 (.lit 0)), (.int .u8 (.lit 0)), (.int .u8 (.lit 0)), (.int .u8 (.lit 0)), (.int .u8 (.lit 0)), (.int .u8 (.lit 0)), (.int .u8 (.lit 0)), (.int .u8 (.lit 0)), (.int .u8 (.lit 0)), (.int .u8 (.lit 0)), (.int .u8 (.lit 0)), (.int .u8 (.lit 0)), (.int .u8 (.lit 0)), (.int .u8 (.lit 0)), (.int .u8 (.lit 0)), (.int .u8 (.lit 0)), (.int .u8 (.lit 0)), (.int .u8 (.lit 0)), (.int .u8 (.lit 0)), (.int .u8 (.lit 0)), (.int .u8 (.lit 0)), (.int .u8 (.lit 0)), (.int .u8 (.lit 0)), (.int .u8 (.lit 0)), (.int .u8 (.lit 0)), (.int .u8 (.lit 0)), (.int .u8 (.lit 0)), (.int .u8 (.lit 0)), (.int .u8 (.lit 0)), (.int .u8 (.lit 0)), (.int .u8 (.lit 0)), (.int .u8 (.lit 0)), (.int .u8 (.lit 0)), (.int .u8 (.lit 0)), (.int .u8 (.lit 0)), (.int .u8 (.lit 0)), (.int .u8 (.lit 0)), (.int .u8 (.lit 0)), (.int .u8 (.lit 0)), (.int .u8 (.lit 0)), (.int .u8 (.lit 0)), (.int .u8 (.lit 0)), (.int .u8 (.lit 0)), (.int .u8 (.lit 0)), (.int .u8 (.lit 0)), (.int .u8 (.lit 0)), (.int .u8 (.lit 0)), (.int .u8 (.lit 0)), (.int .u8 (.lit 0)), (.int .u8 (.lit 0)), (.int .u8 (.lit 0)), (.int .u8 (.lit 0)), (.int .u8 (.lit 0)), (.int .u8 (.lit 0)), (.int .u8 (.lit 0)), (.int .u8 (.lit 0)), (.int .u8 (.lit 0)), (.int .u8 (.lit 0)), (.int .u8 (.lit 0)), (.int .u8 (.lit 0)), (.int .u8 (.lit 0)), (.int .u8 (.lit 0)), (.int .u8 (.lit 0)), (.int .u8 (.lit 0)), (.int .u8 (.lit 0)), (.int .u8 (.lit 0)), (.int .u8 (.lit 0)), (.int .u8 (.lit 0)), (.int .u8 (.lit 0)), (.int .u8 (.lit 0)), (.int .u8 (.lit 0)), (.int .u8 (.lit 0)), (.int .u8 (.lit 0)), (.int .u8 (.lit 0)), (.int .u8 (.lit 0)), (.int .u8 (.lit 0)), (.int .u8 (.lit 0)), (.int .u8 (.lit 0)), (.int .u8 (.lit 0)), (.int .u8 (.lit 0)), (.int .u8 (.lit 0)), (.int .u8 (.lit 0)), (.int .u8 (.lit 0)), (.int .u8 (.lit 0)), (.int .u8 (.lit 0)), (.int .u8 (.lit 0)), (.int .u8 (.lit 0)), (.int .u8 (.lit 0)), (.int .u8 (.lit 0)), (.int .u8 (.lit 0)), (.int .u8 (.lit 0)), (.int .u8 (.lit 0)), (.int .u8 (.lit 0)), (.int .u8 (.lit 0)), (.int .u8 (.lit 0)), (.int .u8 (.lit 0)), (.int .u8 (.lit 0)), (.int .u8 (.lit 0)), (.int .u8 (.lit 0)), (.int .u8 (.lit 0)), (.int .u8 (.lit 0)), (.int .u8 (.lit 0)), (.int .u8 (.lit 0)), (.int .u8 (.lit 0)), (.int .u8 (.lit 0)), (.int .u8 (.lit 0)), (.int .u8 (.lit 0)), (.int .u8 (.lit 0)), (.int .u8 (.lit 0)), (.int .u8 (.lit 0)), (.int .u8 (.lit 0)), (.int .u8 (.lit 0)), (.int .u8 (.lit 0)), (.int .u8 (.lit 0)), (.int .u8 (.lit 0)), (.int .u8 (.lit 0)), (.int .u8 (.lit 0)), (.int .u8 (.lit 0)), (.int .u8 (.lit 0)), (.int .u8 (.lit 0)), (.int .u8 (.lit 0)), (.int .u8 (.lit 0)), (.int .u8 (.lit 0)), (.int .u8 (.lit 0)), (.int .u8 (.lit 0)), (.int .u8 (.lit 0)), (.int .u8 (.lit 0)), (.int .u8 (.lit 0)), (.int .u8 (.lit 0)), (.int .u8 (.lit 0)), (.int .u8 (.lit 0)), (.int .u8 (.lit 0)), (.int .u8 (.lit 0)), (.int .u8 (.lit 0)), (.int .u8 (.lit 0)), (.int .u8 (.lit 0)), (.int .u8 (.lit 0)), (.int .u8 (.lit 0)), (.int .u8 (.lit 0)), (.int .u8 (.lit 0)), (.int .u8 (.lit 0)), (.int .u8 (.lit 0)), (.int .u8 (.lit 0)), (.int .u8 (.lit 0)), (.int .u8 (.lit 0)), (.int .u8 (.lit 0)), (.int .u8 (.lit 0)), (.int .u8 (.lit 0)), (.int .u8 (.lit 0)), (.int .u8 (.lit 0)), (.int .u8 (.lit 0)), (.int .u8 (.lit 0)), (.int .u8 (.lit 0)), (.int .u8 (.lit 0)), (.int .u8 (.lit 0)), (.int .u8 (.lit 0)), (.int .u8 (.lit 0))] false
def ob4 : SObj := .cells [(.bool (.lit false)), (.int .u32 (.lit 0)), (.int .u32 (.lit 0)), (.int .u32 (.lit 0)), (.int .u32 (.lit 0)), (.int .u32 (.lit 0)), (.int .u32 (.lit 0)), (.int .u32 (.lit 0)), (.int .u32 (.lit 0)), (.int .u32 (.lit 0)), (.int .u32 (.lit 0)), (.int .u32 (.lit 0)), (.int .u32 (.lit 0)), (.int .u32 (.lit 0)), (.int .u32 (.lit 0)), (.int .u32 (.lit 0)), (.int .u32 (.lit 0)), (.int .u32 (.lit 0)), (.int .u32 (.lit 0)), (.int .u32 (.lit 0)), (.int .u32 (.lit 0)), (.int .u32 (.lit 0)), (.int .u32 (.lit 0)), (.int .u32 (.lit 0)), (.int .u32 (.lit 0)), (.int .u32 (.lit 0)), (.int .u32 (.lit 0)), (.int .u32 (.lit 0)), (.int .u32 (.lit 0)), (.int .u32 (.lit 0)), (.int .u32 (.lit 0)), (.int .u32 (.lit 0)), (.int .u32 (.lit 0)), (.int .u32 (.lit 0)), (.int .u32 (.lit 0)), (.int .u32 (.lit 0)), (.int .u32 (.lit 0)), (.int .u32 (.lit 0)), (.int .u32 (.lit 0)), (.int .u32 (.lit 0)), (.int .u32 (.lit 0)), (.int .u32 (.lit 0)), (.int .u32 (.lit 0)), (.int .u32 (.lit 0)), (.int .i64 (.lit 256))] false
def ob5 : SObj := .cells [(.bool (.lit false)), (.int .u32 (.lit 0)), (.int .u32 (.lit 0)), (.int .u32 (.lit 0)), (.int .u32 (.lit 0)), (.int .u32 (.lit 0)), (.int .u32 (.lit 0)), (.int .u32 (.lit 0)), (.int .u32 (.lit 0)), (.int .u32 (.lit 0)), (.int .u32 (.lit 1)), (.int .u32 (.lit 0)), (.int .u32 (.lit 0)), (.int .u32 (.lit 0)), (.int .u32 (.lit 0)), (.int .u32 (.lit 0)), (.int .u32 (.lit 0)), (.int .u32 (.lit 0)), (.int .u32 (.lit 0)), (.int .u32 (.lit 0)), (.int .u32 (.lit 0)), (.int .u32 (.lit 0)), (.int .u32 (.lit 0)), (.int .u32 (.lit 0)), (.int .u32 (.lit 0)), (.int .u32 (.lit 0)), (.int .u32 (.lit 0)), (.int .u32 (.lit 0)), (.int .u32 (.lit 0)), (.int .u32 (.lit 0)), (.int .u32 (.lit 0)), (.int .u32 (.lit 0)), (.int .u32 (.lit 0)), (.int .u32 (.lit 0)), (.int .u32 (.lit 0)), (.int .u32 (.lit 0)), (.int .u32 (.lit 0)), (.int .u32 (.lit 0)), (.int .u32 (.lit 0)), (.int .u32 (.lit 0)), (.int .u32 (.lit 0)), (.int .u32 (.lit 0)), (.int .u32 (.lit 0)), (.int .u32 (.lit 0)), (.int .i64 (.lit 256))] false
def ob6 : SObj := .cells [(.int .u8 (.lit 243)), (.int .u8 (.lit 32)), (.int .u8 (.lit 64)), (.int .u8 (.lit 241)), (.int .u8 (.lit 99)), (.int .u8 (.lit 154)), (.int .u8 (.lit 0)), (.int .u8 (.lit 0)), (.int .u8 (.lit 131)), (.int .u8 (.lit 33)), (.int .u8 (.lit 192)), (.int .u8 (.lit 3)), (.int .u8 (.lit 55)), (.int .u8 (.lit 1)), (.int .u8 (.lit 0)), (.int .u8 (.lit 64)), (.int .u8 (.lit 35)), (.int .u8 (.lit 34)), (.int .u8 (.lit 49)), (.int .u8 (.lit 0)), (.int .u8 (.lit 111)), (.int .u8 (.lit 0)), (.int .u8 (.lit 0)), (.int .u8 (.lit 0)), (.int .u8 (.lit 115)), (.int .u8 (.lit 80)), (.int .u8 (.lit 68)), (.int .u8 (.lit 48)), (.int .u8 (.lit 115)), (.int .u8 (.lit 80)), (.int .u8 (.lit 0)), (.int .u8 (.lit 48)), (.int .u8 (.lit 115)), (.int .u8 (.lit 80)), (.int .u8 (.lit 88)), (.int .u8 (.lit 48)), (.int .u8 (.lit 115)), (.int .u8 (.lit 0)), (.int .u8 (.lit 80)), (.int .u8 (.lit 16)), (.int .u8 (.lit 147)), (.int .u8 (.lit 130)), (.int .u8 (.lit 18)), (.int .u8 (.lit 0)), (.int .u8 (.lit 111)), (.int .u8 (.lit 0)), (.int .u8 (.lit 0)), (.int .u8 (.lit 0)), (.int .u8 (.lit 0)), (.int .u8 (.lit 0)), (.int .u8 (.lit 0)), (.int .u8 (.lit 0)), (.int .u8 (.lit 0)), (.int .u8 (.lit 0)), (.int .u8 (.lit 0)), (.int .u8 (.lit 0)), (.int .u8 (.lit 0)), (.int .u8 (.lit 0)), (.int .u8 (.lit 0)), (.int .u8 (.lit 0)), (.int .u8 (.bin .and .u32 (.cv .u32 (.var 0)) (.lit 255))), (.int .u8 (.bin .and .u32 (.bin .shr .u32 (.cv .u32 (.var 0)) (.lit 8)) (.lit 255))), (.int .u8 (.bin .and .u32 (.bin .shr .u32 (.cv .u32 (.var 0)) (.lit 16)) (.lit 255))), (.int .u8 (.bin .shr .u32 (.cv .u32 (.var 0)) (.lit 24))), (.int .u8 (.lit 0)), (.int .u8 (.lit 0)), (.int .u8 (.lit 0)), (.int .u8 (.lit 0)), (.int .u8 (.lit 0)), (.int .u8 (.lit 0)), (.int .u8 (.lit 0)), (.int .u8 (.lit 0)), (.int .u8 (.lit 0)), (.int .u8 (.lit 0)), (.int .u8 (.lit 0)), (.int .u8 (.lit 0)), (.int .u8 (.lit 0)), (.int .u8 (.lit 0)), (.int .u8 (.lit 0)), (.int .u8 (.lit 0)), (.int .u8 (.lit 0)), (.int .u8 (.lit 0)), (.int .u8 (.lit 0)), (.int .u8 (.lit 0)), (.int .u8 (.lit 0)), (.int .u8 (.lit 0)), (.int .u8 (.lit 0)), (.int .u8 (.lit 0)), (.int .u8 (.lit 0)), (.int .u8 (.lit 0)), (.int .u8 (.lit 0)), (.int .u8 (.lit 0)), (.int .u8 (.lit 0)), (.int .u8 (.lit 0)), (.int .u8 (.lit 0)), (.int .u8 (.lit 0)), (.int .u8 (.lit 0)), (.int .u8 (.lit 0)), (.int .u8 (.lit 0)), (.int .u8 (.lit 0)), (.int .u8 (.lit 0)), (.int .u8 (.lit 0)), (.int .u8 (.lit 0)), (.int .u8 (.lit 0)), (.int .u8 (.lit 0)), (.int .u8 (.lit 0)), (.int .u8 (.lit 0)), (.int .u8 (.lit 0)), (.int .u8 (.lit 0)), (.int .u8 (.lit 0)), (.int .u8 (.lit 0)), (.int .u8 (.lit 0)), (.int .u8 (.lit 0)), (.int .u8 (.lit 0)), (.int .u8 (.lit 0)), (.int .u8 (.lit 0)), (.int .u8 (.lit 0)), (.int .u8 (.lit 0)), (.int .u8 (.lit 0)), (.int .u8 (.lit 0)), (.int .u8 (.lit 0)), (.int .u8 (.lit 0)), (.int .u8 (.lit 0)), (.int .u8 (.lit 0)), (.int .u8 (.lit 0)), (.int .u8 (.lit 0)), (.int .u8 (.lit 0)), (.int .u8 (.lit 0)), (.int .u8 (.lit 0)), (.int .u8 (.lit 0)), (.int .u8 (.lit 0)), (.int .u8 (.lit 0)), (.int .u8 (.lit 0)), (.int .u8 (.lit 0)), (.int .u8 (.lit 0)), (.int .u8 (.lit 0)), (.int .u8 (.lit 0)), (.int .u8 (.lit 0)), (.int .u8 (.lit 0)), (.int .u8 (.lit 0)), (.int .u8 (.lit 0)), (.int .u8 (.lit 0)), (.int .u8 (.lit 0)), (.int .u8 (.lit 0)), (.int .u8 (.lit 0)), (.int .u8 (.lit 0)), (.int .u8 (.lit 0)), (.int .u8 (.lit 0)), (.int .u8 (.lit 0)), (.int .u8 (.lit 0)), (.int .u8 (.lit 0)), (.int .u8 (.lit 0)), (.int .u8 (.lit 0)), (.int .u8 (.lit 0)), (.int .u8 (.lit 0)), (.int .u8 (.lit 0)), (.int .u8 (.lit 0)), (.int .u8 (.lit 0)), (.int .u8 (.lit 0)), (.int .u8 (.lit 0)), (.int .u8 (.lit 0)), (.int .u8 (.lit 0)), (.int .u8 (.lit 0)), (.int .u8 (.lit 0)), (.int .u8 (.lit 0)), (.int .u8 (.lit 0)), (.int .u8 (.lit 0)), (.int .u8 (.lit 0)), (.int .u8 (.lit 0)), (.int .u8 (.lit 0)), (.int .u8 (.lit 0)), (.int .u8 (.lit 0)), (.int .u8 (.lit 0)), (.int .u8 (.lit 0)), (.int .u8 (.lit 0)), (.int .u8 (.lit 0)), (.int .u8 (.lit 0)), (.int .u8 (.lit 0)), (.int .u8 (.lit 0)), (.int .u8 (.lit 0)), (.int .u8 (.lit 0)), (.int .u8 (.lit 0)), (.int .u8 (.lit 0)), (.int .u8 (.lit 0)), (.int .u8 (.lit 0)), (.int .u8 (.lit 0)), (.int .u8 (.lit 0)), (.int .u8 (.lit 0)), (.int .u8 (.lit 0)), (.int .u8 (.lit 0)), (.int .u8 (.lit 0)), (.int .u8 (.lit 0)), (.int .u8 (.lit 0)), (.int .u8 (.lit 0)), (.int .u8 (.lit 0)), (.int .u8 (.lit 0)), (.int .u8 (.lit 0)), (.int .u8 (.lit 0)), (.int .u8 (.lit 0)), (.int .u8 (.lit 0)), (.int .u8 (.lit 0)), (.int .u8 (.lit 0)), (.int .u8 (.lit 0)), (.int .u8 (.lit 0)), (.int .u8 (.lit 0)), (.int .u8 (.lit 0)), (.int .u8 (.lit 0)), (.int .u8 (.lit 0)), (.int .u8 (.lit 0)), (.int .u8 (.lit 0)), (.int .u8 (.lit 0)), (.int .u8 (.lit 0)), (.int .u8 (.lit 0)), (.int .u8 (.lit 0)), (.int .u8 (.lit 0)), (.int .u8 (.lit 0)), (.int .u8 (.lit 0)), (.int .u8 (.lit 0)), (.int .u8 (.lit 0)), (.int .u8 (.lit 0)), (.int .u8 (.lit 0)), (.int .u8 (.lit 0)), (.int .u8 (.lit 0)), (.int .u8 (.lit 0)), (.int .u8 (.lit 0)), (.int .u8 (.lit 0)), (.int .u8 (.lit 0)), (.int .u8 (.lit 0)), (.int .u8 (.lit 0)), (.int .u8 (.lit 0)), (.int .u8 (.lit 0)), (.int .u8 (.lit 0)), (.int .u8 (.lit 0)), (.int .u8 (.lit 0)), (.int .u8 (.lit 0)), (.int .u8 (.lit 0)), (.int .u8 (.lit 0)), (.int .u8 (.lit 0)), (.int .u8 (.lit 0)), (.int .u8 (.lit 0)), (.int .u8 (.lit 0)), (.int .u8 (.lit 0)), (.int .u8 (.lit 0)), (.int .u8 (.lit 0)), (.int .u8 (.lit 0)), (.int .u8 (.lit 0)), (.int .u8 (.lit 0)), (.int .u8 (.lit 0)), (.int .u8 (.lit 0)), (.int .u8 (.lit 0)), (.int .u8 (.lit 0)), (.int .u8 (.lit 0)), (.int .u8 (.lit 0)), (.int .u8 (.lit 0)), (.int .u8 (.lit 0)), (.int .u8 (.lit 0))] false
def ob7 : SObj := .cells [(.int .u8 (.lit 243)), (.int .u8 (.lit 32)), (.int .u8 (.lit 64)), (.int .u8 (.lit 241)), (.int .u8 (.lit 99)), (.int .u8 (.lit 154)), (.int .u8 (.lit 0)), (.int .u8 (.lit 0)), (.int .u8 (.lit 131)), (.int .u8 (.lit 33)), (.int .u8 (.lit 192)), (.int .u8 (.lit 3)), (.int .u8 (.lit 55)), (.int .u8 (.lit 1)), (.int .u8 (.lit 0)), (.int .u8 (.lit 64)), (.int .u8 (.lit 35)), (.int .u8 (.lit 34)), (.int .u8 (.lit 49)), (.int .u8 (.lit 0)), (.int .u8 (.lit 111)), (.int .u8 (.lit 0)), (.int .u8 (.lit 0)), (.int .u8 (.lit 0)), (.int .u8 (.lit 115)), (.int .u8 (.lit 80)), (.int .u8 (.lit 64)), (.int .u8 (.lit 48)), (.int .u8 (.lit 115)), (.int .u8 (.lit 80)), (.int .u8 (.lit 4)), (.int .u8 (.lit 48)), (.int .u8 (.lit 115)), (.int .u8 (.lit 80)), (.int .u8 (.lit 88)), (.int .u8 (.lit 48)), (.int .u8 (.lit 115)), (.int .u8 (.lit 0)), (.int .u8 (.lit 80)), (.int .u8 (.lit 16)), (.int .u8 (.lit 147)), (.int .u8 (.lit 130)), (.int .u8 (.lit 18)), (.int .u8 (.lit 0)), (.int .u8 (.lit 111)), (.int .u8 (.lit 0)), (.int .u8 (.lit 0)), (.int .u8 (.lit 0)), (.int .u8 (.lit 0)), (.int .u8 (.lit 0)), (.int .u8 (.lit 0)), (.int .u8 (.lit 0)), (.int .u8 (.lit 0)), (.int .u8 (.lit 0)), (.int .u8 (.lit 0)), (.int .u8 (.lit 0)), (.int .u8 (.lit 0)), (.int .u8 (.lit 0)), (.int .u8 (.lit 0)), (.int .u8 (.lit 0)), (.int .u8 (.bin .and .u32 (.cv .u32 (.var 0)) (.lit 255))), (.int .u8 (.bin .and .u32 (.bin .shr .u32 (.cv .u32 (.var 0)) (.lit 8)) (.lit 255))), (.int .u8 (.bin .and .u32 (.bin .shr .u32 (.cv .u32 (.var 0)) (.lit 16)) (.lit 255))), (.int .u8 (.bin .shr .u32 (.cv .u32 (.var 0)) (.lit 24))), (.int .u8 (.lit 0)), (.int .u8 (.lit 0)), (.int .u8 (.lit 0)), (.int .u8 (.lit 0)), (.int .u8 (.lit 0)), (.int .u8 (.lit 0)), (.int .u8 (.lit 0)), (.int .u8 (.lit 0)), (.int .u8 (.lit 0)), (.int .u8 (.lit 0)), (.int .u8 (.lit 0)), (.int .u8 (.lit 0)), (.int .u8 (.lit 0)), (.int .u8 (.lit 0)), (.int .u8 (.lit 0)), (.int .u8 (.lit 0)), (.int .u8 (.lit 0)), (.int .u8 (.lit 0)), (.int .u8 (.lit 0)), (.int .u8 (.lit 0)), (.int .u8 (.lit 0)), (.int .u8 (.lit 0)), (.int .u8 (.lit 0)), (.int .u8 (.lit 0)), (.int .u8 (.lit 0)), (.int .u8 (.lit 0)), (.int .u8 (.lit 0)), (.int .u8 (.lit 0)), (.int .u8 (.lit 0)), (.int .u8 (.lit 0)), (.int .u8 (.lit 0)), (.int .u8 (.lit 0)), (.int .u8 (.lit 0)), (.int .u8 (.lit 0)), (.int .u8 (.lit 0)), (.int .u8 (.lit 0)), (.int .u8 (.lit 0)), (.int .u8 (.lit 0)), (.int .u8 (.lit 0)), (.int .u8 (.lit 0)), (.int .u8 (.lit 0)), (.int .u8 (.lit 0)), (.int .u8 (.lit 0)), (.int .u8 (.lit 0)), (.int .u8 (.lit 0)), (.int .u8 (.lit 0)), (.int .u8 (.lit 0)), (.int .u8 (.lit 0)), (.int .u8 (.lit 0)), (.int .u8 (.lit 0)), (.int .u8 (.lit 0)), (.int .u8 (.lit 0)), (.int .u8 (.lit 0)), (.int .u8 (.lit 0)), (.int .u8 (.lit 0)), (.int .u8 (.lit 0)), (.int .u8 (.lit 0)), (.int .u8 (.lit 0)), (.int .u8 (.lit 0)), (.int .u8 (.lit 0)), (.int .u8 (.lit 0)), (.int .u8 (.lit 0)), (.int .u8 (.lit 0)), (.int .u8 (.lit 0)), (.int .u8 (.lit 0)), (.int .u8 (.lit 0)), (.int .u8 (.lit 0)), (.int .u8 (.lit 0)), (.int .u8 (.lit 0)), (.int .u8 (.lit 0)), (.int .u8 (.lit 0)), (.int .u8 (.lit 0)), (.int .u8 (.lit 0)), (.int .u8 (.lit 0)), (.int .u8 (.lit 0)), (.int .u8 (.lit 0)), (.int .u8 (.lit 0)), (.int .u8 (.lit 0)), (.int .u8 (.lit 0)), (.int .u8 (.lit 0)), (.int .u8 (.lit 0)), (.int .u8 (.lit 0)), (.int .u8 (.lit 0)), (.int .u8 (.lit 0)), (.int .u8 (.lit 0)), (.int .u8 (.lit 0)), (.int .u8 (.lit 0)), (.int .u8 (.lit 0)), (.int .u8 (.lit 0)), (.int .u8 (.lit 0)), (.int .u8 (.lit 0)), (.int .u8 (.lit 0)), (.int .u8 (.lit 0)), (.int .u8 (.lit 0)), (.int .u8 (.lit 0)), (.int .u8 (.lit 0)), (.int .u8 (.lit 0)), (.int .u8 (.lit 0)), (.int .u8 (.lit 0)), (.int .u8 (.lit 0)), (.int .u8 (.lit 0)), (.int .u8 (.lit 0)), (.int .u8 (.lit 0)), (.int .u8 (.lit 0)), (.int .u8 (.lit 0)), (.int .u8 (.lit 0)), (.int .u8 (.lit 0)), (.int .u8 (.lit 0)), (.int .u8 (.lit 0)), (.int .u8 (.lit 0)), (.int .u8 (.lit 0)), (.int .u8 (.lit 0)), (.int .u8 (.lit 0)), (.int .u8 (.lit 0)), (.int .u8 (.lit 0)), (.int .u8 (.lit 0)), (.int .u8 (.lit 0)), (.int .u8 (.lit 0)), (.int .u8 (.lit 0)), (.int .u8 (.lit 0)), (.int .u8 (.lit 0)), (.int .u8 (.lit 0)), (.int .u8 (.lit 0)), (.int .u8 (.lit 0)), (.int .u8 (.lit 0)), (.int .u8 (.lit 0)), (.int .u8 (.lit 0)), (.int .u8 (.lit 0)), (.int .u8 (.lit 0)), (.int .u8 (.lit 0)), (.int .u8 (.lit 0)), (.int .u8 (.lit 0)), (.int .u8 (.lit 0)), (.int .u8 (.lit 0)), (.int .u8 (.lit 0)), (.int .u8 (.lit 0)), (.int .u8 (.lit 0)), (.int .u8 (.lit 0)), (.int .u8 (.lit 0)), (.int .u8 (.lit 0)), (.int .u8 (.lit 0)), (.int .u8 (.lit 0)), (.int .u8 (.lit 0)), (.int .u8 (.lit 0)), (.int .u8 (.lit 0)), (.int .u8 (.lit 0)), (.int .u8 (.lit 0)), (.int .u8 (.lit 0)), (.int .u8 (.lit 0)), (.int .u8 (.lit 0)), (.int .u8 (.lit 0)), (.int .u8 (.lit 0)), (.int .u8 (.lit 0)), (.int .u8 (.lit 0)), (.int .u8 (.lit 0)), (.int .u8 (.lit 0)), (.int .u8 (.lit 0)), (.int .u8 (.lit 0)), (.int .u8 (.lit 0)), (.int .u8 (.lit 0)), (.int .u8 (.lit 0)), (.int .u8 (.lit 0)), (.int .u8 (.lit 0)), (.int .u8 (.lit 0)), (.int .u8 (.lit 0)), (.int .u8 (.lit 0)), (.int .u8 (.lit 0)), (.int .u8 (.lit 0)), (.int .u8 (.lit 0)), (.int .u8 (.lit 0)), (.int .u8 (.lit 0)), (.int .u8 (.lit 0)), (.int .u8 (.lit 0)), (.int .u8 (.lit 0)), (.int .u8 (.lit 0)), (.int .u8 (.lit 0)), (.int .u8 (.lit 0)), (.int .u8 (.lit 0)), (.int .u8 (.lit 0)), (.int .u8 (.lit 0)), (.int .u8 (.lit 0)), (.int .u8 (.lit 0)), (.int .u8 (.lit 0)), (.int .u8 (.lit 0)), (.int .u8 (.lit 0)), (.int .u8 (.lit 0)), (.int .u8 (.lit 0)), (.int .u8 (.lit 0)), (.int .u8 (.lit 0)), (.int .u8 (.lit 0)), (.int .u8 (.lit 0)), (.int .u8 (.lit 0))] false
def ob8 : SObj := .cells [(.int .u8 (.lit 243)), (.int .u8 (.lit 32)), (.int .u8 (.lit 64)), (.int .u8 (.lit 241)), (.int .u8 (.lit 99)), (.int .u8 (.lit 154)), (.int .u8 (.lit 0)), (.int .u8 (.lit 0)), (.int .u8 (.lit 131)), (.int .u8 (.lit 33)), (.int .u8 (.lit 192)), (.int .u8 (.lit 3)), (.int .u8 (.lit 55)), (.int .u8 (.lit 1)), (.int .u8 (.lit 0)), (.int .u8 (.lit 64)), (.int .u8 (.lit 35)), (.int .u8 (.lit 34)), (.int .u8 (.lit 49)), (.int .u8 (.lit 0)), (.int .u8 (.lit 111)), (.int .u8 (.lit 0)), (.int .u8 (.lit 0)), (.int .u8 (.lit 0)), (.int .u8 (.lit 115)), (.int .u8 (.lit 80)), (.int .u8 (.lit 64)), (.int .u8 (.lit 48)), (.int .u8 (.lit 115)), (.int .u8 (.lit 80)), (.int .u8 (.lit 0)), (.int .u8 (.lit 48)), (.int .u8 (.lit 115)), (.int .u8 (.lit 80)), (.int .u8 (.lit 88)), (.int .u8 (.lit 48)), (.int .u8 (.lit 115)), (.int .u8 (.lit 0)), (.int .u8 (.lit 80)), (.int .u8 (.lit 16)), (.int .u8 (.lit 147)), (.int .u8 (.lit 130)), (.int .u8 (.lit 18)), (.int .u8 (.lit 0)), (.int .u8 (.lit 111)), (.int .u8 (.lit 0)), (.int .u8 (.lit 0)), (.int .u8 (.lit 0)), (.int .u8 (.lit 0)), (.int .u8 (.lit 0)), (.int .u8 (.lit 0)), (.int .u8 (.lit 0)), (.int .u8 (.lit 0)), (.int .u8 (.lit 0)), (.int .u8 (.lit 0)), (.int .u8 (.lit 0)), (.int .u8 (.lit 0)), (.int .u8 (.lit 0)), (.int .u8 (.lit 0)), (.int .u8 (.lit 0)), (.int .u8 (.bin .and .u32 (.cv .u32 (.var 0)) (.lit 255))), (.int .u8 (.bin .and .u32 (.bin .shr .u32 (.cv .u32 (.var 0)) (.lit 8)) (.lit 255))), (.int .u8 (.bin .and .u32 (.bin .shr .u32 (.cv .u32 (.var 0)) (.lit 16)) (.lit 255))), (.int .u8 (.bin .shr .u32 (.cv .u32 (.var 0)) (.lit 24))), (.int .u8 (.lit 0)), (.int .u8 (.lit 0)), (.int .u8 (.lit 0)), (.int .u8 (.lit 0)), (.int .u8 (.lit 0)), (.int .u8 (.lit 0)), (.int .u8 (.lit 0)), (.int .u8 (.lit 0)), (.int .u8 (.lit 0)), (.int .u8 (.lit 0)), (.int .u8 (.lit 0)), (.int .u8 (.lit 0)), (.int .u8 (.lit 0)), (.int .u8 (.lit 0)), (.int .u8 (.lit 0)), (.int .u8 (.lit 0)), (.int .u8 (.lit 0)), (.int .u8 (.lit 0)), (.int .u8 (.lit 0)), (.int .u8 (.lit 0)), (.int .u8 (.lit 0)), (.int .u8 (.lit 0)), (.int .u8 (.lit 0)), (.int .u8 (.lit 0)), (.int .u8 (.lit 0)), (.int .u8 (.lit 0)), (.int .u8 (.lit 0)), (.int .u8 (.lit 0)), (.int .u8 (.lit 0)), (.int .u8 (.lit 0)), (.int .u8 (.lit 0)), (.int .u8 (.lit 0)), (.int .u8 (.lit 0)), (.int .u8 (.lit 0)), (.int .u8 (.lit 0)), (.int .u8 (.lit 0)), (.int .u8 (.lit 0)), (.int .u8 (.lit 0)), (.int .u8 (.lit 0)), (.int .u8 (.lit 0)), (.int .u8 (.lit 0)), (.int .u8 (.lit 0)), (.int .u8 (.lit 0)), (.int .u8 (.lit 0)), (.int .u8 (.lit 0)), (.int .u8 (.lit 0)), (.int .u8 (.lit 0)), (.int .u8 (.lit 0)), (.int .u8 (.lit 0)), (.int .u8 (.lit 0)), (.int .u8 (.lit 0)), (.int .u8 (.lit 0)), (.int .u8 (.lit 0)), (.int .u8 (.lit 0)), (.int .u8 (.lit 0)), (.int .u8 (.lit 0)), (.int .u8 (.lit 0)), (.int .u8 (.lit 0)), (.int .u8 (.lit 0)), (.int .u8 (.lit 0)), (.int .u8 (.lit 0)), (.int .u8 (.lit 0)), (.int .u8 (.lit 0)), (.int .u8 (.lit 0)), (.int .u8 (.lit 0)), (.int .u8 (.lit 0)), (.int .u8 (.lit 0)), (.int .u8 (.lit 0)), (.int .u8 (.lit 0)), (.int .u8 (.lit 0)), (.int .u8 (.lit 0)), (.int .u8 (.lit 0)), (.int .u8 (.lit 0)), (.int .u8 (.lit 0)), (.int .u8 (.lit 0)), (.int .u8 (.lit 0)), (.int .u8 (.lit 0)), (.int .u8 (.lit 0)), (.int .u8 (.lit 0)), (.int .u8 (.lit 0)), (.int .u8 (.lit 0)), (.int .u8 (.lit 0)), (.int .u8 (.lit 0)), (.int .u8 (.lit 0)), (.int .u8 (.lit 0)), (.int .u8 (.lit 0)), (.int .u8 (.lit 0)), (.int .u8 (.lit 0)), (.int .u8 (.lit 0)), (.int .u8 (.lit 0)), (.int .u8 (.lit 0)), (.int .u8 (.lit 0)), (.int .u8 (.lit 0)), (.int .u8 (.lit 0)), (.int .u8 (.lit 0)), (.int .u8 (.lit 0)), (.int .u8 (.lit 0)), (.int .u8 (.lit 0)), (.int .u8 (.lit 0)), (.int .u8 (.lit 0)), (.int .u8 (.lit 0)), (.int .u8 (.lit 0)), (.int .u8 (.lit 0)), (.int .u8 (.lit 0)), (.int .u8 (.lit 0)), (.int .u8 (.lit 0)), (.int .u8 (.lit 0)), (.int .u8 (.lit 0)), (.int .u8 (.lit 0)), (.int .u8 (.lit 0)), (.int .u8 (.lit 0)), (.int .u8 (.lit 0)), (.int .u8 (.lit 0)), (.int .u8 (.lit 0)), (.int .u8 (.lit 0)), (.int .u8 (.lit 0)), (.int .u8 (.lit 0)), (.int .u8 (.lit 0)), (.int .u8 (.lit 0)), (.int .u8 (.lit 0)), (.int .u8 (.lit 0)), (.int .u8 (.lit 0)), (.int .u8 (.lit 0)), (.int .u8 (.lit 0)), (.int .u8 (.lit 0)), (.int .u8 (.lit 0)), (.int .u8 (.lit 0)), (.int .u8 (.lit 0)), (.int .u8 (.lit 0)), (.int .u8 (.lit 0)), (.int .u8 (.lit 0)), (.int .u8 (.lit 0)), (.int .u8 (.lit 0)), (.int .u8 (.lit 0)), (.int .u8 (.lit 0)), (.int .u8 (.lit 0)), (.int .u8 (.lit 0)), (.int .u8 (.lit 0)), (.int .u8 (.lit 0)), (.int .u8 (.lit 0)), (.int .u8 (.lit 0)), (.int .u8 (.lit 0)), (.int .u8 (.lit 0)), (.int .u8 (.lit 0)), (.int .u8 (.lit 0)), (.int .u8 (.lit 0)), (.int .u8 (.lit 0)), (.int .u8 (.lit 0)), (.int .u8 (.lit 0)), (.int .u8 (.lit 0)), (.int .u8 (.lit 0)), (.int .u8 (.lit 0)), (.int .u8 (.lit 0)), (.int .u8 (.lit 0)), (.int .u8 (.lit 0)), (.int .u8 (.lit 0)), (.int .u8 (.lit 0)), (.int .u8 (.lit 0)), (.int .u8 (.lit 0)), (.int .u8 (.lit 0)), (.int .u8 (.lit 0)), (.int .u8 (.lit 0)), (.int .u8 (.lit 0)), (.int .u8 (.lit 0)), (.int .u8 (.lit 0)), (.int .u8 (.lit 0)), (.int .u8 (.lit 0)), (.int .u8 (.lit 0)), (.int .u8 (.lit 0)), (.int .u8 (.lit 0)), (.int .u8 (.lit 0)), (.int .u8 (.lit 0)), (.int .u8 (.lit 0)), (.int .u8 (.lit 0)), (.int .u8 (.lit 0)), (.int .u8 (.lit 0)), (.int .u8 (.lit 0)), (.int .u8 (.lit 0)), (.int .u8 (.lit 0)), (.int .u8 (.lit 0)), (.int .u8 (.lit 0)), (.int .u8 (.lit 0)), (.int .u8 (.lit 0)), (.int .u8 (.lit 0)), (.int .u8 (.lit 0)), (.int .u8 (.lit 0)), (.int .u8 (.lit 0)), (.int .u8 (.lit 0)), (.int .u8 (.lit 0)), (.int .u8 (.lit 0)), (.int .u8 (.lit 0)), (.int .u8 (.lit 0))] false
def ob9 : SObj := .cells [(.slice 7 0 2 2 1), (.ptr 8 0), (.int .i64 (.lit 12))] false
def ob10 : SObj := .cells [(.ptr 13 0), (.bool (.lit false)), (.int .u32 (.lit 0)), (.bool (.lit true))] false
def ob11 : SObj := .cells [(.bool (.lit false)), (.int .u32 (.lit 0)), (.int .u32 (.lit 8)), (.int .u32 (.lit 8)), (.int .u32 (.lit 16)), (.int .u32 (.lit 0)), (.int .u32 (.lit 0)), (.int .u32 (.lit 0)), (.int .u32 (.lit 0)), (.int .u32 (.lit 0)), (.int .u32 (.lit 1)), (.int .u32 (.lit 40)), (.int .u32 (.lit 0)), (.int .u32 (.lit 1)), (.int .u32 (.lit 0)), (.int .u32 (.lit 0)), (.int .u32 (.lit 0)), (.int .u32 (.lit 0)), (.int .u32 (.lit 0)), (.int .u32 (.lit 0)), (.int .u32 (.lit 0)), (.int .u32 (.lit 0)), (.int .u32 (.lit 0)), (.int .u32 (.lit 0)), (.int .u32 (.lit 0)), (.int .u32 (.lit 0)), (.int .u32 (.lit 0)), (.int .u32 (.lit 0)), (.int .u32 (.lit 0)), (.int .u32 (.lit 0)), (.int .u32 (.lit 0)), (.int .u32 (.lit 0)), (.int .u32 (.lit 0)), (.int .u32 (.lit 0)), (.int .u32 (.lit 0)), (.int .u32 (.lit 0)), (.int .u32 (.lit 0)), (.int .u32 (.lit 0)), (.int .u32 (.lit 0)), (.int .u32 (.lit 0)), (.int .u32 (.lit 0)), (.int .u32 (.lit 0)), (.int .u32 (.lit 0)), (.int .u32 (.lit 0)), (.int .i64 (.lit 256))] false
def ob12 : SObj := .cells [(.bool (.lit false)), (.int .u32 (.lit 0)), (.int .u32 (.lit 0)), (.int .u32 (.lit 8)), (.int .u32 (.lit 16)), (.int .u32 (.lit 0)), (.int .u32 (.lit 0)), (.int .u32 (.lit 0)), (.int .u32 (.lit 0)), (.int .u32 (.lit 0)), (.int .u32 (.lit 1)), (.int .u32 (.lit 40)), (.int .u32 (.lit 0)), (.int .u32 (.lit 1)), (.int .u32 (.lit 0)), (.int .u32 (.lit 0)), (.int .u32 (.lit 0)), (.int .u32 (.lit 0)), (.int .u32 (.lit 0)), (.int .u32 (.lit 0)), (.int .u32 (.lit 0)), (.int .u32 (.lit 0)), (.int .u32 (.lit 0)), (.int .u32 (.lit 0)), (.int .u32 (.lit 0)), (.int .u32 (.lit 0)), (.int .u32 (.lit 0)), (.int .u32 (.lit 0)), (.int .u32 (.lit 0)), (.int .u32 (.lit 0)), (.int .u32 (.lit 0)), (.int .u32 (.lit 0)), (.int .u32 (.lit 0)), (.int .u32 (.lit 0)), (.int .u32 (.lit 0)), (.int .u32 (.lit 0)), (.int .u32 (.lit 0)), (.int .u32 (.lit 0)), (.int .u32 (.lit 0)), (.int .u32 (.lit 0)), (.int .u32 (.lit 0)), (.int .u32 (.lit 0)), (.int .u32 (.lit 0)), (.int .u32 (.lit 0)), (.int .i64 (.lit 256))] false
def ob13 : SObj := .cells [(.bool (.lit false)), (.int .u32 (.lit 0)), (.int .u32 (.lit 8)), (.int .u32 (.lit 0)), (.int .u32 (.lit 16)), (.int .u32 (.lit 0)), (.int .u32 (.lit 0)), (.int .u32 (.lit 0)), (.int .u32 (.lit 0)), (.int .u32 (.lit 0)), (.int .u32 (.lit 1)), (.int .u32 (.lit 40)), (.int .u32 (.lit 0)), (.int .u32 (.lit 1)), (.int .u32 (.lit 0)), (.int .u32 (.lit 0)), (.int .u32 (.lit 0)), (.int .u32 (.lit 0)), (.int .u32 (.lit 0)), (.int .u32 (.lit 0)), (.int .u32 (.lit 0)), (.int .u32 (.lit 0)), (.int .u32 (.lit 0)), (.int .u32 (.lit 0)), (.int .u32 (.lit 0)), (.int .u32 (.lit 0)), (.int .u32 (.lit 0)), (.int .u32 (.lit 0)), (.int .u32 (.lit 0)), (.int .u32 (.lit 0)), (.int .u32 (.lit 0)), (.int .u32 (.lit 0)), (.int .u32 (.lit 0)), (.int .u32 (.lit 0)), (.int .u32 (.lit 0)), (.int .u32 (.lit 0)), (.int .u32 (.lit 0)), (.int .u32 (.lit 0)), (.int .u32 (.lit 0)), (.int .u32 (.lit 0)), (.int .u32 (.lit 0)), (.int .u32 (.lit 0)), (.int .u32 (.lit 0)), (.int .u32 (.lit 0)), (.int .i64 (.lit 256))] false
def ob14 : SObj := .cells [(.bool (.lit false)), (.int .u32 (.lit 0)), (.int .u32 (.lit 0)), (.int .u32 (.lit 0)), (.int .u32 (.lit 16)), (.int .u32 (.lit 0)), (.int .u32 (.lit 0)), (.int .u32 (.lit 0)), (.int .u32 (.lit 0)), (.int .u32 (.lit 0)), (.int .u32 (.lit 1)), (.int .u32 (.lit 40)), (.int .u32 (.lit 0)), (.int .u32 (.lit 1)), (.int .u32 (.lit 0)), (.int .u32 (.lit 0)), (.int .u32 (.lit 0)), (.int .u32 (.lit 0)), (.int .u32 (.lit 0)), (.int .u32 (.lit 0)), (.int .u32 (.lit 0)), (.int .u32 (.lit 0)), (.int .u32 (.lit 0)), (.int .u32 (.lit 0)), (.int .u32 (.lit 0)), (.int .u32 (.lit 0)), (.int .u32 (.lit 0)), (.int .u32 (.lit 0)), (.int .u32 (.lit 0)), (.int .u32 (.lit 0)), (.int .u32 (.lit 0)), (.int .u32 (.lit 0)), (.int .u32 (.lit 0)), (.int .u32 (.lit 0)), (.int .u32 (.lit 0)), (.int .u32 (.lit 0)), (.int .u32 (.lit 0)), (.int .u32 (.lit 0)), (.int .u32 (.lit 0)), (.int .u32 (.lit 0)), (.int .u32 (.lit 0)), (.int .u32 (.lit 0)), (.int .u32 (.lit 0)), (.int .u32 (.lit 0)), (.int .i64 (.lit 256))] false

theorem own : ownKnob Tryz.prog.godebug = none := by kernel_rfl
def shs : List (Bool × List CK) := [(false, [.bool]), (false, [.bool]), (false, [.int .u32]), (false, [.int .i64])]
def pc0 : PC := seeds (allK shs) []
theorem door_sz : doorH.sz = 6 := by kernel_rfl
theorem G_lt' : ∀ g id, G g = some id → id < 6 := fun g id h => by have := G_lt g id h; rwa [door_sz] at this
def B0 : ACode := af6.body
def T0_0 : Tp := ⟨symAs 0 shs ++ List.replicate (af6.ntmps - (symAs 0 shs).length) sundef, objsFrom 199 0 doorL, pc0⟩
def Ts0 : List Tp := [T0_0]
def T1_0 : Tp := ⟨List.append ([(.bool (.var 0)), (.bool (.var 1)), (.int .u32 (.cv .u32 (.var 2))), (.int .i64 (.cv .i64 (.var 3))), .lost, .lost, .lost, .lost, .lost, (.bool (.lit true))]) (List.replicate 143 .lost),
 objsFrom 199 0 doorL ++ [],
 []⟩
def Ts1 : List Tp := [T1_0]
def B1 : ACode := sufC 3 B0
noncomputable def M0_0 : TT (Ex × Fr × SP) := evPre CL 2000 3 B0 T0_0.fr T0_0.sp
def T2_0 : Tp := ⟨List.append ([(.bool (.lit true)), (.bool (.lit true)), (.int .u32 (.cv .u32 (.var 0))), (.int .i64 (.cv .i64 (.var 1))), .lost, .lost, .lost, .lost, .lost, (.bool (.lit true)), (.int .u32 (.lit 8)), (.int .u32 (.lit 8))]) (List.replicate 141 .lost),
 objsFrom 199 0 doorL ++ [],
 []⟩
def T2_1 : Tp := ⟨List.append ([(.bool (.lit true)), (.bool (.lit false)), (.int .u32 (.cv .u32 (.var 0))), (.int .i64 (.cv .i64 (.var 1))), .lost, .lost, .lost, .lost, .lost, (.bool (.lit true)), (.int .u32 (.lit 8)), (.int .u32 (.lit 0))]) (List.replicate 141 .lost),
 objsFrom 199 0 doorL ++ [],
 []⟩
def T2_2 : Tp := ⟨List.append ([(.bool (.lit false)), (.bool (.lit true)), (.int .u32 (.cv .u32 (.var 0))), (.int .i64 (.cv .i64 (.var 1))), .lost, .lost, .lost, .lost, .lost, (.bool (.lit true)), (.int .u32 (.lit 0)), (.int .u32 (.lit 8))]) (List.replicate 141 .lost),
 objsFrom 199 0 doorL ++ [],
 []⟩
def T2_3 : Tp := ⟨List.append ([(.bool (.lit false)), (.bool (.lit false)), (.int .u32 (.cv .u32 (.var 0))), (.int .i64 (.cv .i64 (.var 1))), .lost, .lost, .lost, .lost, .lost, (.bool (.lit true)), (.int .u32 (.lit 0)), (.int .u32 (.lit 0))]) (List.replicate 141 .lost),
 objsFrom 199 0 doorL ++ [],
 []⟩
def Ts2 : List Tp := [T2_0, T2_1, T2_2, T2_3]
def B2 : ACode := sufC 4 B1
noncomputable def M1_0 : TT (Ex × Fr × SP) := evPre CL 2000 4 B1 T1_0.fr T1_0.sp
def sk1_0 : Sk := (.node (.node .hole .hole) (.node .hole .hole))
def T3_0 : Tp := ⟨List.append ([(.bool (.lit true)), (.bool (.lit true)), (.int .u32 (.cv .u32 (.var 0))), (.int .i64 (.cv .i64 (.var 1))), .lost, .lost, .lost, .lost, .lost, (.bool (.lit true)), .lost, .lost, (.slice 6 0 16 16 1)]) (List.replicate 140 .lost),
 objsFrom 199 0 doorL ++ [(.cells [(.int .u32 (.lit 4047511795)), (.int .u32 (.lit 39523)), (.int .u32 (.lit 62923139)), (.int .u32 (.lit 1073742135)), (.int .u32 (.lit 3220003)), (.int .u32 (.lit 111)), (.int .u32 (.lit 809783411)), (.int .u32 (.lit 805589107)), (.int .u32 (.lit 811094131)), (.int .u32 (.lit 273678451)), (.int .u32 (.lit 1213075)), (.int .u32 (.lit 111)), (.int .u32 (.lit 0)), (.int .u32 (.lit 0)), (.int .u32 (.lit 0)), (.int .u32 (.cv .u32 (.var 0)))] false)],
 []⟩
def T3_1 : Tp := ⟨List.append ([(.bool (.lit true)), (.bool (.lit false)), (.int .u32 (.cv .u32 (.var 0))), (.int .i64 (.cv .i64 (.var 1))), .lost, .lost, .lost, .lost, .lost, (.bool (.lit true)), .lost, .lost, (.slice 6 0 16 16 1)]) (List.replicate 140 .lost),
 objsFrom 199 0 doorL ++ [(.cells [(.int .u32 (.lit 4047511795)), (.int .u32 (.lit 39523)), (.int .u32 (.lit 62923139)), (.int .u32 (.lit 1073742135)), (.int .u32 (.lit 3220003)), (.int .u32 (.lit 111)), (.int .u32 (.lit 809783411)), (.int .u32 (.lit 805326963)), (.int .u32 (.lit 811094131)), (.int .u32 (.lit 273678451)), (.int .u32 (.lit 1213075)), (.int .u32 (.lit 111)), (.int .u32 (.lit 0)), (.int .u32 (.lit 0)), (.int .u32 (.lit 0)), (.int .u32 (.cv .u32 (.var 0)))] false)],
 []⟩
def T3_2 : Tp := ⟨List.append ([(.bool (.lit false)), (.bool (.lit true)), (.int .u32 (.cv .u32 (.var 0))), (.int .i64 (.cv .i64 (.var 1))), .lost, .lost, .lost, .lost, .lost, (.bool (.lit true)), .lost, .lost, (.slice 6 0 16 16 1)]) (List.replicate 140 .lost),
 objsFrom 199 0 doorL ++ [(.cells [(.int .u32 (.lit 4047511795)), (.int .u32 (.lit 39523)), (.int .u32 (.lit 62923139)), (.int .u32 (.lit 1073742135)), (.int .u32 (.lit 3220003)), (.int .u32 (.lit 111)), (.int .u32 (.lit 809521267)), (.int .u32 (.lit 805589107)), (.int .u32 (.lit 811094131)), (.int .u32 (.lit 273678451)), (.int .u32 (.lit 1213075)), (.int .u32 (.lit 111)), (.int .u32 (.lit 0)), (.int .u32 (.lit 0)), (.int .u32 (.lit 0)), (.int .u32 (.cv .u32 (.var 0)))] false)],
 []⟩
def T3_3 : Tp := ⟨List.append ([(.bool (.lit false)), (.bool (.lit false)), (.int .u32 (.cv .u32 (.var 0))), (.int .i64 (.cv .i64 (.var 1))), .lost, .lost, .lost, .lost, .lost, (.bool (.lit true)), .lost, .lost, (.slice 6 0 16 16 1)]) (List.replicate 140 .lost),
 objsFrom 199 0 doorL ++ [(.cells [(.int .u32 (.lit 4047511795)), (.int .u32 (.lit 39523)), (.int .u32 (.lit 62923139)), (.int .u32 (.lit 1073742135)), (.int .u32 (.lit 3220003)), (.int .u32 (.lit 111)), (.int .u32 (.lit 809521267)), (.int .u32 (.lit 805326963)), (.int .u32 (.lit 811094131)), (.int .u32 (.lit 273678451)), (.int .u32 (.lit 1213075)), (.int .u32 (.lit 111)), (.int .u32 (.lit 0)), (.int .u32 (.lit 0)), (.int .u32 (.lit 0)), (.int .u32 (.cv .u32 (.var 0)))] false)],
 []⟩
def Ts3 : List Tp := [T3_0, T3_1, T3_2, T3_3]
def B3 : ACode := sufC 6 B2
noncomputable def M2_0 : TT (Ex × Fr × SP) := evPre CL 2000 6 B2 T2_0.fr T2_0.sp
noncomputable def M2_1 : TT (Ex × Fr × SP) := evPre CL 2000 6 B2 T2_1.fr T2_1.sp
noncomputable def M2_2 : TT (Ex × Fr × SP) := evPre CL 2000 6 B2 T2_2.fr T2_2.sp
noncomputable def M2_3 : TT (Ex × Fr × SP) := evPre CL 2000 6 B2 T2_3.fr T2_3.sp
def T4_0 : Tp := ⟨List.append ([(.bool (.lit true)), (.bool (.lit true)), (.int .u32 (.cv .u32 (.var 0))), (.int .i64 (.cv .i64 (.var 1)))]) (List.append (List.replicate 9 .lost) (List.append ([(.ptr 6 0)]) (List.replicate 139 .lost))),
 objsFrom 199 0 doorL ++ [ob0, (.cells [(.ptr 9 0), (.ptr 10 0)] false), (.cells [(.slice 11 0 256 256 1)] false), ob1, ob2, ob3, ob4, ob5],
 []⟩
def T4_1 : Tp := ⟨List.append ([(.bool (.lit true)), (.bool (.lit false)), (.int .u32 (.cv .u32 (.var 0))), (.int .i64 (.cv .i64 (.var 1)))]) (List.append (List.replicate 9 .lost) (List.append ([(.ptr 6 0)]) (List.replicate 139 .lost))),
 objsFrom 199 0 doorL ++ [ob0, (.cells [(.ptr 9 0), (.ptr 10 0)] false), (.cells [(.slice 11 0 256 256 1)] false), ob1, ob2, ob6, ob4, ob5],
 []⟩
def T4_2 : Tp := ⟨List.append ([(.bool (.lit false)), (.bool (.lit true)), (.int .u32 (.cv .u32 (.var 0))), (.int .i64 (.cv .i64 (.var 1)))]) (List.append (List.replicate 9 .lost) (List.append ([(.ptr 6 0)]) (List.replicate 139 .lost))),
 objsFrom 199 0 doorL ++ [ob0, (.cells [(.ptr 9 0), (.ptr 10 0)] false), (.cells [(.slice 11 0 256 256 1)] false), ob1, ob2, ob7, ob4, ob5],
 []⟩
def T4_3 : Tp := ⟨List.append ([(.bool (.lit false)), (.bool (.lit false)), (.int .u32 (.cv .u32 (.var 0))), (.int .i64 (.cv .i64 (.var 1)))]) (List.append (List.replicate 9 .lost) (List.append ([(.ptr 6 0)]) (List.replicate 139 .lost))),
 objsFrom 199 0 doorL ++ [ob0, (.cells [(.ptr 9 0), (.ptr 10 0)] false), (.cells [(.slice 11 0 256 256 1)] false), ob1, ob2, ob8, ob4, ob5],
 []⟩
def Ts4 : List Tp := [T4_0, T4_1, T4_2, T4_3]
def B4 : ACode := sufC 2 B3
noncomputable def M3_0 : TT (Ex × Fr × SP) := evPre CL 2000 2 B3 T3_0.fr T3_0.sp
noncomputable def M3_1 : TT (Ex × Fr × SP) := evPre CL 2000 2 B3 T3_1.fr T3_1.sp
noncomputable def M3_2 : TT (Ex × Fr × SP) := evPre CL 2000 2 B3 T3_2.fr T3_2.sp
noncomputable def M3_3 : TT (Ex × Fr × SP) := evPre CL 2000 2 B3 T3_3.fr T3_3.sp
def T5_0 : Tp := ⟨List.append ([(.bool (.lit true)), (.bool (.lit true)), (.int .u32 (.cv .u32 (.var 0))), (.int .i64 (.lit 0))]) (List.append (List.replicate 9 .lost) (List.append ([(.ptr 6 0)]) (List.replicate 139 .lost))),
 objsFrom 199 0 doorL ++ [ob0, (.cells [(.ptr 9 0), (.ptr 10 0)] false), (.cells [(.slice 11 0 256 256 1)] false), ob1, ob2, ob3, ob4, ob5],
 []⟩
def T5_1 : Tp := ⟨List.append ([(.bool (.lit true)), (.bool (.lit true)), (.int .u32 (.cv .u32 (.var 0))), (.int .i64 (.lit 1))]) (List.append (List.replicate 9 .lost) (List.append ([(.ptr 6 0)]) (List.replicate 139 .lost))),
 objsFrom 199 0 doorL ++ [ob0, (.cells [(.ptr 9 0), (.ptr 10 0)] false), (.cells [(.slice 11 0 256 256 1)] false), ob1, ob2, ob3, ob4, ob5],
 []⟩
def T5_2 : Tp := ⟨List.append ([(.bool (.lit true)), (.bool (.lit true)), (.int .u32 (.cv .u32 (.var 0))), (.int .i64 (.lit 2))]) (List.append (List.replicate 9 .lost) (List.append ([(.ptr 6 0)]) (List.replicate 139 .lost))),
 objsFrom 199 0 doorL ++ [ob0, (.cells [(.ptr 9 0), (.ptr 10 0)] false), (.cells [(.slice 11 0 256 256 1)] false), ob1, ob2, ob3, ob4, ob5],
 []⟩
def T5_3 : Tp := ⟨List.append ([(.bool (.lit true)), (.bool (.lit true)), (.int .u32 (.cv .u32 (.var 0))), (.int .i64 (.lit 3))]) (List.append (List.replicate 9 .lost) (List.append ([(.ptr 6 0)]) (List.replicate 139 .lost))),
 objsFrom 199 0 doorL ++ [ob0, (.cells [(.ptr 9 0), (.ptr 10 0)] false), (.cells [(.slice 11 0 256 256 1)] false), ob1, ob2, ob3, ob4, ob5],
 []⟩
def T5_4 : Tp := ⟨List.append ([(.bool (.lit true)), (.bool (.lit false)), (.int .u32 (.cv .u32 (.var 0))), (.int .i64 (.lit 0))]) (List.append (List.replicate 9 .lost) (List.append ([(.ptr 6 0)]) (List.replicate 139 .lost))),
 objsFrom 199 0 doorL ++ [ob0, (.cells [(.ptr 9 0), (.ptr 10 0)] false), (.cells [(.slice 11 0 256 256 1)] false), ob1, ob2, ob6, ob4, ob5],
 []⟩
def T5_5 : Tp := ⟨List.append ([(.bool (.lit true)), (.bool (.lit false)), (.int .u32 (.cv .u32 (.var 0))), (.int .i64 (.lit 1))]) (List.append (List.replicate 9 .lost) (List.append ([(.ptr 6 0)]) (List.replicate 139 .lost))),
 objsFrom 199 0 doorL ++ [ob0, (.cells [(.ptr 9 0), (.ptr 10 0)] false), (.cells [(.slice 11 0 256 256 1)] false), ob1, ob2, ob6, ob4, ob5],
 []⟩
def T5_6 : Tp := ⟨List.append ([(.bool (.lit true)), (.bool (.lit false)), (.int .u32 (.cv .u32 (.var 0))), (.int .i64 (.lit 2))]) (List.append (List.replicate 9 .lost) (List.append ([(.ptr 6 0)]) (List.replicate 139 .lost))),
 objsFrom 199 0 doorL ++ [ob0, (.cells [(.ptr 9 0), (.ptr 10 0)] false), (.cells [(.slice 11 0 256 256 1)] false), ob1, ob2, ob6, ob4, ob5],
 []⟩
def T5_7 : Tp := ⟨List.append ([(.bool (.lit true)), (.bool (.lit false)), (.int .u32 (.cv .u32 (.var 0))), (.int .i64 (.lit 3))]) (List.append (List.replicate 9 .lost) (List.append ([(.ptr 6 0)]) (List.replicate 139 .lost))),
 objsFrom 199 0 doorL ++ [ob0, (.cells [(.ptr 9 0), (.ptr 10 0)] false), (.cells [(.slice 11 0 256 256 1)] false), ob1, ob2, ob6, ob4, ob5],
 []⟩
def T5_8 : Tp := ⟨List.append ([(.bool (.lit false)), (.bool (.lit true)), (.int .u32 (.cv .u32 (.var 0))), (.int .i64 (.lit 0))]) (List.append (List.replicate 9 .lost) (List.append ([(.ptr 6 0)]) (List.replicate 139 .lost))),
 objsFrom 199 0 doorL ++ [ob0, (.cells [(.ptr 9 0), (.ptr 10 0)] false), (.cells [(.slice 11 0 256 256 1)] false), ob1, ob2, ob7, ob4, ob5],
 []⟩
def T5_9 : Tp := ⟨List.append ([(.bool (.lit false)), (.bool (.lit true)), (.int .u32 (.cv .u32 (.var 0))), (.int .i64 (.lit 1))]) (List.append (List.replicate 9 .lost) (List.append ([(.ptr 6 0)]) (List.replicate 139 .lost))),
 objsFrom 199 0 doorL ++ [ob0, (.cells [(.ptr 9 0), (.ptr 10 0)] false), (.cells [(.slice 11 0 256 256 1)] false), ob1, ob2, ob7, ob4, ob5],
 []⟩
def T5_10 : Tp := ⟨List.append ([(.bool (.lit false)), (.bool (.lit true)), (.int .u32 (.cv .u32 (.var 0))), (.int .i64 (.lit 2))]) (List.append (List.replicate 9 .lost) (List.append ([(.ptr 6 0)]) (List.replicate 139 .lost))),
 objsFrom 199 0 doorL ++ [ob0, (.cells [(.ptr 9 0), (.ptr 10 0)] false), (.cells [(.slice 11 0 256 256 1)] false), ob1, ob2, ob7, ob4, ob5],
 []⟩
def T5_11 : Tp := ⟨List.append ([(.bool (.lit false)), (.bool (.lit true)), (.int .u32 (.cv .u32 (.var 0))), (.int .i64 (.lit 3))]) (List.append (List.replicate 9 .lost) (List.append ([(.ptr 6 0)]) (List.replicate 139 .lost))),
 objsFrom 199 0 doorL ++ [ob0, (.cells [(.ptr 9 0), (.ptr 10 0)] false), (.cells [(.slice 11 0 256 256 1)] false), ob1, ob2, ob7, ob4, ob5],
 []⟩
def T5_12 : Tp := ⟨List.append ([(.bool (.lit false)), (.bool (.lit false)), (.int .u32 (.cv .u32 (.var 0))), (.int .i64 (.lit 0))]) (List.append (List.replicate 9 .lost) (List.append ([(.ptr 6 0)]) (List.replicate 139 .lost))),
 objsFrom 199 0 doorL ++ [ob0, (.cells [(.ptr 9 0), (.ptr 10 0)] false), (.cells [(.slice 11 0 256 256 1)] false), ob1, ob2, ob8, ob4, ob5],
 []⟩
def T5_13 : Tp := ⟨List.append ([(.bool (.lit false)), (.bool (.lit false)), (.int .u32 (.cv .u32 (.var 0))), (.int .i64 (.lit 1))]) (List.append (List.replicate 9 .lost) (List.append ([(.ptr 6 0)]) (List.replicate 139 .lost))),
 objsFrom 199 0 doorL ++ [ob0, (.cells [(.ptr 9 0), (.ptr 10 0)] false), (.cells [(.slice 11 0 256 256 1)] false), ob1, ob2, ob8, ob4, ob5],
 []⟩
def T5_14 : Tp := ⟨List.append ([(.bool (.lit false)), (.bool (.lit false)), (.int .u32 (.cv .u32 (.var 0))), (.int .i64 (.lit 2))]) (List.append (List.replicate 9 .lost) (List.append ([(.ptr 6 0)]) (List.replicate 139 .lost))),
 objsFrom 199 0 doorL ++ [ob0, (.cells [(.ptr 9 0), (.ptr 10 0)] false), (.cells [(.slice 11 0 256 256 1)] false), ob1, ob2, ob8, ob4, ob5],
 []⟩
def T5_15 : Tp := ⟨List.append ([(.bool (.lit false)), (.bool (.lit false)), (.int .u32 (.cv .u32 (.var 0))), (.int .i64 (.lit 3))]) (List.append (List.replicate 9 .lost) (List.append ([(.ptr 6 0)]) (List.replicate 139 .lost))),
 objsFrom 199 0 doorL ++ [ob0, (.cells [(.ptr 9 0), (.ptr 10 0)] false), (.cells [(.slice 11 0 256 256 1)] false), ob1, ob2, ob8, ob4, ob5],
 []⟩
def Ts5 : List Tp := [T5_0, T5_1, T5_2, T5_3, T5_4, T5_5, T5_6, T5_7, T5_8, T5_9, T5_10, T5_11, T5_12, T5_13, T5_14, T5_15]
def B5 : ACode := sufC 1 B4
noncomputable def M4_0 : TT (Ex × Fr × SP) := evPreF CL 2000 1 [(3, 4, 0)] B4 T4_0.fr T4_0.sp
def sk4_0 : Sk := (.node .hole (.node .hole (.node .hole (.node .hole .all))))
noncomputable def M4_1 : TT (Ex × Fr × SP) := evPreF CL 2000 1 [(3, 4, 0)] B4 T4_1.fr T4_1.sp
def sk4_1 : Sk := (.node .hole (.node .hole (.node .hole (.node .hole .all))))
noncomputable def M4_2 : TT (Ex × Fr × SP) := evPreF CL 2000 1 [(3, 4, 0)] B4 T4_2.fr T4_2.sp
def sk4_2 : Sk := (.node .hole (.node .hole (.node .hole (.node .hole .all))))
noncomputable def M4_3 : TT (Ex × Fr × SP) := evPreF CL 2000 1 [(3, 4, 0)] B4 T4_3.fr T4_3.sp
def sk4_3 : Sk := (.node .hole (.node .hole (.node .hole (.node .hole .all))))
def T6_0 : Tp := ⟨List.append ([(.bool (.lit true)), (.bool (.lit true)), (.int .u32 (.cv .u32 (.var 0))), (.int .i64 (.lit 0))]) (List.append (List.replicate 9 .lost) (List.append ([(.ptr 6 0)]) (List.replicate 139 .lost))),
 objsFrom 199 0 doorL ++ [ob9, (.cells [(.ptr 9 0), (.ptr 10 0)] false), (.cells [(.slice 11 0 256 256 1)] false), ob1, ob10, ob3, ob4, ob11],
 []⟩
def T6_1 : Tp := ⟨List.append ([(.bool (.lit true)), (.bool (.lit true)), (.int .u32 (.cv .u32 (.var 0))), (.int .i64 (.lit 1))]) (List.append (List.replicate 9 .lost) (List.append ([(.ptr 6 0)]) (List.replicate 139 .lost))),
 objsFrom 199 0 doorL ++ [ob9, (.cells [(.ptr 9 0), (.ptr 10 0)] false), (.cells [(.slice 11 0 256 256 1)] false), ob1, ob10, ob3, ob4, ob11],
 []⟩
def T6_2 : Tp := ⟨List.append ([(.bool (.lit true)), (.bool (.lit true)), (.int .u32 (.cv .u32 (.var 0))), (.int .i64 (.lit 2))]) (List.append (List.replicate 9 .lost) (List.append ([(.ptr 6 0)]) (List.replicate 139 .lost))),
 objsFrom 199 0 doorL ++ [ob9, (.cells [(.ptr 9 0), (.ptr 10 0)] false), (.cells [(.slice 11 0 256 256 1)] false), ob1, ob10, ob3, ob4, ob11],
 []⟩
def T6_3 : Tp := ⟨List.append ([(.bool (.lit true)), (.bool (.lit true)), (.int .u32 (.cv .u32 (.var 0))), (.int .i64 (.lit 3))]) (List.append (List.replicate 9 .lost) (List.append ([(.ptr 6 0)]) (List.replicate 139 .lost))),
 objsFrom 199 0 doorL ++ [ob9, (.cells [(.ptr 9 0), (.ptr 10 0)] false), (.cells [(.slice 11 0 256 256 1)] false), ob1, ob10, ob3, ob4, ob11],
 []⟩
def T6_4 : Tp := ⟨List.append ([(.bool (.lit true)), (.bool (.lit false)), (.int .u32 (.cv .u32 (.var 0))), (.int .i64 (.lit 0))]) (List.append (List.replicate 9 .lost) (List.append ([(.ptr 6 0)]) (List.replicate 139 .lost))),
 objsFrom 199 0 doorL ++ [ob9, (.cells [(.ptr 9 0), (.ptr 10 0)] false), (.cells [(.slice 11 0 256 256 1)] false), ob1, ob10, ob6, ob4, ob12],
 []⟩
def T6_5 : Tp := ⟨List.append ([(.bool (.lit true)), (.bool (.lit false)), (.int .u32 (.cv .u32 (.var 0))), (.int .i64 (.lit 1))]) (List.append (List.replicate 9 .lost) (List.append ([(.ptr 6 0)]) (List.replicate 139 .lost))),
 objsFrom 199 0 doorL ++ [ob9, (.cells [(.ptr 9 0), (.ptr 10 0)] false), (.cells [(.slice 11 0 256 256 1)] false), ob1, ob10, ob6, ob4, ob12],
 []⟩
def T6_6 : Tp := ⟨List.append ([(.bool (.lit true)), (.bool (.lit false)), (.int .u32 (.cv .u32 (.var 0))), (.int .i64 (.lit 2))]) (List.append (List.replicate 9 .lost) (List.append ([(.ptr 6 0)]) (List.replicate 139 .lost))),
 objsFrom 199 0 doorL ++ [ob9, (.cells [(.ptr 9 0), (.ptr 10 0)] false), (.cells [(.slice 11 0 256 256 1)] false), ob1, ob10, ob6, ob4, ob12],
 []⟩
def T6_7 : Tp := ⟨List.append ([(.bool (.lit true)), (.bool (.lit false)), (.int .u32 (.cv .u32 (.var 0))), (.int .i64 (.lit 3))]) (List.append (List.replicate 9 .lost) (List.append ([(.ptr 6 0)]) (List.replicate 139 .lost))),
 objsFrom 199 0 doorL ++ [ob9, (.cells [(.ptr 9 0), (.ptr 10 0)] false), (.cells [(.slice 11 0 256 256 1)] false), ob1, ob10, ob6, ob4, ob12],
 []⟩
def T6_8 : Tp := ⟨List.append ([(.bool (.lit false)), (.bool (.lit true)), (.int .u32 (.cv .u32 (.var 0))), (.int .i64 (.lit 0))]) (List.append (List.replicate 9 .lost) (List.append ([(.ptr 6 0)]) (List.replicate 139 .lost))),
 objsFrom 199 0 doorL ++ [ob9, (.cells [(.ptr 9 0), (.ptr 10 0)] false), (.cells [(.slice 11 0 256 256 1)] false), ob1, ob10, ob7, ob4, ob13],
 []⟩
def T6_9 : Tp := ⟨List.append ([(.bool (.lit false)), (.bool (.lit true)), (.int .u32 (.cv .u32 (.var 0))), (.int .i64 (.lit 1))]) (List.append (List.replicate 9 .lost) (List.append ([(.ptr 6 0)]) (List.replicate 139 .lost))),
 objsFrom 199 0 doorL ++ [ob9, (.cells [(.ptr 9 0), (.ptr 10 0)] false), (.cells [(.slice 11 0 256 256 1)] false), ob1, ob10, ob7, ob4, ob13],
 []⟩
def T6_10 : Tp := ⟨List.append ([(.bool (.lit false)), (.bool (.lit true)), (.int .u32 (.cv .u32 (.var 0))), (.int .i64 (.lit 2))]) (List.append (List.replicate 9 .lost) (List.append ([(.ptr 6 0)]) (List.replicate 139 .lost))),
 objsFrom 199 0 doorL ++ [ob9, (.cells [(.ptr 9 0), (.ptr 10 0)] false), (.cells [(.slice 11 0 256 256 1)] false), ob1, ob10, ob7, ob4, ob13],
 []⟩
def T6_11 : Tp := ⟨List.append ([(.bool (.lit false)), (.bool (.lit true)), (.int .u32 (.cv .u32 (.var 0))), (.int .i64 (.lit 3))]) (List.append (List.replicate 9 .lost) (List.append ([(.ptr 6 0)]) (List.replicate 139 .lost))),
 objsFrom 199 0 doorL ++ [ob9, (.cells [(.ptr 9 0), (.ptr 10 0)] false), (.cells [(.slice 11 0 256 256 1)] false), ob1, ob10, ob7, ob4, ob13],
 []⟩
def T6_12 : Tp := ⟨List.append ([(.bool (.lit false)), (.bool (.lit false)), (.int .u32 (.cv .u32 (.var 0))), (.int .i64 (.lit 0))]) (List.append (List.replicate 9 .lost) (List.append ([(.ptr 6 0)]) (List.replicate 139 .lost))),
 objsFrom 199 0 doorL ++ [ob9, (.cells [(.ptr 9 0), (.ptr 10 0)] false), (.cells [(.slice 11 0 256 256 1)] false), ob1, ob10, ob8, ob4, ob14],
 []⟩
def T6_13 : Tp := ⟨List.append ([(.bool (.lit false)), (.bool (.lit false)), (.int .u32 (.cv .u32 (.var 0))), (.int .i64 (.lit 1))]) (List.append (List.replicate 9 .lost) (List.append ([(.ptr 6 0)]) (List.replicate 139 .lost))),
 objsFrom 199 0 doorL ++ [ob9, (.cells [(.ptr 9 0), (.ptr 10 0)] false), (.cells [(.slice 11 0 256 256 1)] false), ob1, ob10, ob8, ob4, ob14],
 []⟩
def T6_14 : Tp := ⟨List.append ([(.bool (.lit false)), (.bool (.lit false)), (.int .u32 (.cv .u32 (.var 0))), (.int .i64 (.lit 2))]) (List.append (List.replicate 9 .lost) (List.append ([(.ptr 6 0)]) (List.replicate 139 .lost))),
 objsFrom 199 0 doorL ++ [ob9, (.cells [(.ptr 9 0), (.ptr 10 0)] false), (.cells [(.slice 11 0 256 256 1)] false), ob1, ob10, ob8, ob4, ob14],
 []⟩
def T6_15 : Tp := ⟨List.append ([(.bool (.lit false)), (.bool (.lit false)), (.int .u32 (.cv .u32 (.var 0))), (.int .i64 (.lit 3))]) (List.append (List.replicate 9 .lost) (List.append ([(.ptr 6 0)]) (List.replicate 139 .lost))),
 objsFrom 199 0 doorL ++ [ob9, (.cells [(.ptr 9 0), (.ptr 10 0)] false), (.cells [(.slice 11 0 256 256 1)] false), ob1, ob10, ob8, ob4, ob14],
 []⟩
def Ts6 : List Tp := [T6_0, T6_1, T6_2, T6_3, T6_4, T6_5, T6_6, T6_7, T6_8, T6_9, T6_10, T6_11, T6_12, T6_13, T6_14, T6_15]
def B6 : ACode := sufC 1 B5
noncomputable def M5_0 : TT (Ex × Fr × SP) := evPre CL 2000 1 B5 T5_0.fr T5_0.sp
noncomputable def M5_1 : TT (Ex × Fr × SP) := evPre CL 2000 1 B5 T5_1.fr T5_1.sp
noncomputable def M5_2 : TT (Ex × Fr × SP) := evPre CL 2000 1 B5 T5_2.fr T5_2.sp
noncomputable def M5_3 : TT (Ex × Fr × SP) := evPre CL 2000 1 B5 T5_3.fr T5_3.sp
noncomputable def M5_4 : TT (Ex × Fr × SP) := evPre CL 2000 1 B5 T5_4.fr T5_4.sp
noncomputable def M5_5 : TT (Ex × Fr × SP) := evPre CL 2000 1 B5 T5_5.fr T5_5.sp
noncomputable def M5_6 : TT (Ex × Fr × SP) := evPre CL 2000 1 B5 T5_6.fr T5_6.sp
noncomputable def M5_7 : TT (Ex × Fr × SP) := evPre CL 2000 1 B5 T5_7.fr T5_7.sp
noncomputable def M5_8 : TT (Ex × Fr × SP) := evPre CL 2000 1 B5 T5_8.fr T5_8.sp
noncomputable def M5_9 : TT (Ex × Fr × SP) := evPre CL 2000 1 B5 T5_9.fr T5_9.sp
noncomputable def M5_10 : TT (Ex × Fr × SP) := evPre CL 2000 1 B5 T5_10.fr T5_10.sp
noncomputable def M5_11 : TT (Ex × Fr × SP) := evPre CL 2000 1 B5 T5_11.fr T5_11.sp
noncomputable def M5_12 : TT (Ex × Fr × SP) := evPre CL 2000 1 B5 T5_12.fr T5_12.sp
noncomputable def M5_13 : TT (Ex × Fr × SP) := evPre CL 2000 1 B5 T5_13.fr T5_13.sp
noncomputable def M5_14 : TT (Ex × Fr × SP) := evPre CL 2000 1 B5 T5_14.fr T5_14.sp
noncomputable def M5_15 : TT (Ex × Fr × SP) := evPre CL 2000 1 B5 T5_15.fr T5_15.sp
def T7_0 : Tp := ⟨List.append ([(.bool (.lit true)), (.bool (.lit true)), (.int .u32 (.cv .u32 (.var 0))), (.int .i64 (.lit 0))]) (List.append (List.replicate 9 .lost) (List.append ([(.ptr 6 0)]) (List.replicate 139 .lost))),
 objsFrom 199 0 doorL ++ [ob9, (.cells [(.ptr 9 0), (.ptr 10 0)] false), (.cells [(.slice 11 0 256 256 1)] false), ob1, ob10, ob3, ob4, ob11],
 []⟩
def T7_1 : Tp := ⟨List.append ([(.bool (.lit true)), (.bool (.lit true)), (.int .u32 (.cv .u32 (.var 0))), (.int .i64 (.lit 1))]) (List.append (List.replicate 9 .lost) (List.append ([(.ptr 6 0)]) (List.replicate 139 .lost))),
 objsFrom 199 0 doorL ++ [ob9, (.cells [(.ptr 9 0), (.ptr 10 0)] false), (.cells [(.slice 11 0 256 256 1)] false), ob1, ob10, ob3, ob4, ob11],
 []⟩
def T7_2 : Tp := ⟨List.append ([(.bool (.lit true)), (.bool (.lit true)), (.int .u32 (.cv .u32 (.var 0))), (.int .i64 (.lit 2))]) (List.append (List.replicate 9 .lost) (List.append ([(.ptr 6 0)]) (List.replicate 139 .lost))),
 objsFrom 199 0 doorL ++ [ob9, (.cells [(.ptr 9 0), (.ptr 10 0)] false), (.cells [(.slice 11 0 256 256 1)] false), ob1, ob10, ob3, ob4, ob11],
 []⟩
def T7_3 : Tp := ⟨List.append ([(.bool (.lit true)), (.bool (.lit true)), (.int .u32 (.cv .u32 (.var 0))), (.int .i64 (.lit 3))]) (List.append (List.replicate 9 .lost) (List.append ([(.ptr 6 0)]) (List.replicate 139 .lost))),
 objsFrom 199 0 doorL ++ [ob9, (.cells [(.ptr 9 0), (.ptr 10 0)] false), (.cells [(.slice 11 0 256 256 1)] false), ob1, ob10, ob3, ob4, ob11],
 []⟩
def T7_4 : Tp := ⟨List.append ([(.bool (.lit true)), (.bool (.lit false)), (.int .u32 (.cv .u32 (.var 0))), (.int .i64 (.lit 0))]) (List.append (List.replicate 9 .lost) (List.append ([(.ptr 6 0)]) (List.replicate 139 .lost))),
 objsFrom 199 0 doorL ++ [ob9, (.cells [(.ptr 9 0), (.ptr 10 0)] false), (.cells [(.slice 11 0 256 256 1)] false), ob1, ob10, ob6, ob4, ob12],
 []⟩
def T7_5 : Tp := ⟨List.append ([(.bool (.lit true)), (.bool (.lit false)), (.int .u32 (.cv .u32 (.var 0))), (.int .i64 (.lit 1))]) (List.append (List.replicate 9 .lost) (List.append ([(.ptr 6 0)]) (List.replicate 139 .lost))),
 objsFrom 199 0 doorL ++ [ob9, (.cells [(.ptr 9 0), (.ptr 10 0)] false), (.cells [(.slice 11 0 256 256 1)] false), ob1, ob10, ob6, ob4, ob12],
 []⟩
def T7_6 : Tp := ⟨List.append ([(.bool (.lit true)), (.bool (.lit false)), (.int .u32 (.cv .u32 (.var 0))), (.int .i64 (.lit 2))]) (List.append (List.replicate 9 .lost) (List.append ([(.ptr 6 0)]) (List.replicate 139 .lost))),
 objsFrom 199 0 doorL ++ [ob9, (.cells [(.ptr 9 0), (.ptr 10 0)] false), (.cells [(.slice 11 0 256 256 1)] false), ob1, ob10, ob6, ob4, ob12],
 []⟩
def T7_7 : Tp := ⟨List.append ([(.bool (.lit true)), (.bool (.lit false)), (.int .u32 (.cv .u32 (.var 0))), (.int .i64 (.lit 3))]) (List.append (List.replicate 9 .lost) (List.append ([(.ptr 6 0)]) (List.replicate 139 .lost))),
 objsFrom 199 0 doorL ++ [ob9, (.cells [(.ptr 9 0), (.ptr 10 0)] false), (.cells [(.slice 11 0 256 256 1)] false), ob1, ob10, ob6, ob4, ob12],
 []⟩
def T7_8 : Tp := ⟨List.append ([(.bool (.lit false)), (.bool (.lit true)), (.int .u32 (.cv .u32 (.var 0))), (.int .i64 (.lit 0))]) (List.append (List.replicate 9 .lost) (List.append ([(.ptr 6 0)]) (List.replicate 139 .lost))),
 objsFrom 199 0 doorL ++ [ob9, (.cells [(.ptr 9 0), (.ptr 10 0)] false), (.cells [(.slice 11 0 256 256 1)] false), ob1, ob10, ob7, ob4, ob13],
 []⟩
def T7_9 : Tp := ⟨List.append ([(.bool (.lit false)), (.bool (.lit true)), (.int .u32 (.cv .u32 (.var 0))), (.int .i64 (.lit 1))]) (List.append (List.replicate 9 .lost) (List.append ([(.ptr 6 0)]) (List.replicate 139 .lost))),
 objsFrom 199 0 doorL ++ [ob9, (.cells [(.ptr 9 0), (.ptr 10 0)] false), (.cells [(.slice 11 0 256 256 1)] false), ob1, ob10, ob7, ob4, ob13],
 []⟩
def T7_10 : Tp := ⟨List.append ([(.bool (.lit false)), (.bool (.lit true)), (.int .u32 (.cv .u32 (.var 0))), (.int .i64 (.lit 2))]) (List.append (List.replicate 9 .lost) (List.append ([(.ptr 6 0)]) (List.replicate 139 .lost))),
 objsFrom 199 0 doorL ++ [ob9, (.cells [(.ptr 9 0), (.ptr 10 0)] false), (.cells [(.slice 11 0 256 256 1)] false), ob1, ob10, ob7, ob4, ob13],
 []⟩
def T7_11 : Tp := ⟨List.append ([(.bool (.lit false)), (.bool (.lit true)), (.int .u32 (.cv .u32 (.var 0))), (.int .i64 (.lit 3))]) (List.append (List.replicate 9 .lost) (List.append ([(.ptr 6 0)]) (List.replicate 139 .lost))),
 objsFrom 199 0 doorL ++ [ob9, (.cells [(.ptr 9 0), (.ptr 10 0)] false), (.cells [(.slice 11 0 256 256 1)] false), ob1, ob10, ob7, ob4, ob13],
 []⟩
def T7_12 : Tp := ⟨List.append ([(.bool (.lit false)), (.bool (.lit false)), (.int .u32 (.cv .u32 (.var 0))), (.int .i64 (.lit 0))]) (List.append (List.replicate 9 .lost) (List.append ([(.ptr 6 0)]) (List.replicate 139 .lost))),
 objsFrom 199 0 doorL ++ [ob9, (.cells [(.ptr 9 0), (.ptr 10 0)] false), (.cells [(.slice 11 0 256 256 1)] false), ob1, ob10, ob8, ob4, ob14],
 []⟩
def T7_13 : Tp := ⟨List.append ([(.bool (.lit false)), (.bool (.lit false)), (.int .u32 (.cv .u32 (.var 0))), (.int .i64 (.lit 1))]) (List.append (List.replicate 9 .lost) (List.append ([(.ptr 6 0)]) (List.replicate 139 .lost))),
 objsFrom 199 0 doorL ++ [ob9, (.cells [(.ptr 9 0), (.ptr 10 0)] false), (.cells [(.slice 11 0 256 256 1)] false), ob1, ob10, ob8, ob4, ob14],
 []⟩
def T7_14 : Tp := ⟨List.append ([(.bool (.lit false)), (.bool (.lit false)), (.int .u32 (.cv .u32 (.var 0))), (.int .i64 (.lit 2))]) (List.append (List.replicate 9 .lost) (List.append ([(.ptr 6 0)]) (List.replicate 139 .lost))),
 objsFrom 199 0 doorL ++ [ob9, (.cells [(.ptr 9 0), (.ptr 10 0)] false), (.cells [(.slice 11 0 256 256 1)] false), ob1, ob10, ob8, ob4, ob14],
 []⟩
def T7_15 : Tp := ⟨List.append ([(.bool (.lit false)), (.bool (.lit false)), (.int .u32 (.cv .u32 (.var 0))), (.int .i64 (.lit 3))]) (List.append (List.replicate 9 .lost) (List.append ([(.ptr 6 0)]) (List.replicate 139 .lost))),
 objsFrom 199 0 doorL ++ [ob9, (.cells [(.ptr 9 0), (.ptr 10 0)] false), (.cells [(.slice 11 0 256 256 1)] false), ob1, ob10, ob8, ob4, ob14],
 []⟩
def Ts7 : List Tp := [T7_0, T7_1, T7_2, T7_3, T7_4, T7_5, T7_6, T7_7, T7_8, T7_9, T7_10, T7_11, T7_12, T7_13, T7_14, T7_15]
def B7 : ACode := sufC 1 B6
noncomputable def M6_0 : TT (Ex × Fr × SP) := evPre CL 2000 1 B6 T6_0.fr T6_0.sp
noncomputable def M6_1 : TT (Ex × Fr × SP) := evPre CL 2000 1 B6 T6_1.fr T6_1.sp
noncomputable def M6_2 : TT (Ex × Fr × SP) := evPre CL 2000 1 B6 T6_2.fr T6_2.sp
noncomputable def M6_3 : TT (Ex × Fr × SP) := evPre CL 2000 1 B6 T6_3.fr T6_3.sp
noncomputable def M6_4 : TT (Ex × Fr × SP) := evPre CL 2000 1 B6 T6_4.fr T6_4.sp
noncomputable def M6_5 : TT (Ex × Fr × SP) := evPre CL 2000 1 B6 T6_5.fr T6_5.sp
noncomputable def M6_6 : TT (Ex × Fr × SP) := evPre CL 2000 1 B6 T6_6.fr T6_6.sp
noncomputable def M6_7 : TT (Ex × Fr × SP) := evPre CL 2000 1 B6 T6_7.fr T6_7.sp
noncomputable def M6_8 : TT (Ex × Fr × SP) := evPre CL 2000 1 B6 T6_8.fr T6_8.sp
noncomputable def M6_9 : TT (Ex × Fr × SP) := evPre CL 2000 1 B6 T6_9.fr T6_9.sp
noncomputable def M6_10 : TT (Ex × Fr × SP) := evPre CL 2000 1 B6 T6_10.fr T6_10.sp
noncomputable def M6_11 : TT (Ex × Fr × SP) := evPre CL 2000 1 B6 T6_11.fr T6_11.sp
noncomputable def M6_12 : TT (Ex × Fr × SP) := evPre CL 2000 1 B6 T6_12.fr T6_12.sp
noncomputable def M6_13 : TT (Ex × Fr × SP) := evPre CL 2000 1 B6 T6_13.fr T6_13.sp
noncomputable def M6_14 : TT (Ex × Fr × SP) := evPre CL 2000 1 B6 T6_14.fr T6_14.sp
noncomputable def M6_15 : TT (Ex × Fr × SP) := evPre CL 2000 1 B6 T6_15.fr T6_15.sp
def T8_0 : Tp := ⟨List.append ([(.bool (.lit true)), (.bool (.lit true)), (.int .u32 (.cv .u32 (.var 0)))]) (List.append (List.replicate 10 .lost) (List.append ([(.ptr 6 0)]) (List.replicate 139 .lost))),
 objsFrom 199 0 doorL ++ [ob9, (.cells [(.ptr 9 0), (.ptr 10 0)] false), (.cells [(.slice 11 0 256 256 1)] false), ob1, ob10, ob3, ob4, ob11],
 []⟩
def T8_1 : Tp := ⟨List.append ([(.bool (.lit true)), (.bool (.lit false)), (.int .u32 (.cv .u32 (.var 0)))]) (List.append (List.replicate 10 .lost) (List.append ([(.ptr 6 0)]) (List.replicate 139 .lost))),
 objsFrom 199 0 doorL ++ [ob9, (.cells [(.ptr 9 0), (.ptr 10 0)] false), (.cells [(.slice 11 0 256 256 1)] false), ob1, ob10, ob6, ob4, ob12],
 []⟩
def T8_2 : Tp := ⟨List.append ([(.bool (.lit false)), (.bool (.lit true)), (.int .u32 (.cv .u32 (.var 0)))]) (List.append (List.replicate 10 .lost) (List.append ([(.ptr 6 0)]) (List.replicate 139 .lost))),
 objsFrom 199 0 doorL ++ [ob9, (.cells [(.ptr 9 0), (.ptr 10 0)] false), (.cells [(.slice 11 0 256 256 1)] false), ob1, ob10, ob7, ob4, ob13],
 []⟩
def T8_3 : Tp := ⟨List.append ([(.bool (.lit false)), (.bool (.lit false)), (.int .u32 (.cv .u32 (.var 0)))]) (List.append (List.replicate 10 .lost) (List.append ([(.ptr 6 0)]) (List.replicate 139 .lost))),
 objsFrom 199 0 doorL ++ [ob9, (.cells [(.ptr 9 0), (.ptr 10 0)] false), (.cells [(.slice 11 0 256 256 1)] false), ob1, ob10, ob8, ob4, ob14],
 []⟩
def Ts8 : List Tp := [T8_0, T8_1, T8_2, T8_3]
def B8 : ACode := sufC 1 B7
noncomputable def M7_0 : TT (Ex × Fr × SP) := evPre CL 2000 1 B7 T7_0.fr T7_0.sp
noncomputable def M7_1 : TT (Ex × Fr × SP) := evPre CL 2000 1 B7 T7_1.fr T7_1.sp
noncomputable def M7_2 : TT (Ex × Fr × SP) := evPre CL 2000 1 B7 T7_2.fr T7_2.sp
noncomputable def M7_3 : TT (Ex × Fr × SP) := evPre CL 2000 1 B7 T7_3.fr T7_3.sp
noncomputable def M7_4 : TT (Ex × Fr × SP) := evPre CL 2000 1 B7 T7_4.fr T7_4.sp
noncomputable def M7_5 : TT (Ex × Fr × SP) := evPre CL 2000 1 B7 T7_5.fr T7_5.sp
noncomputable def M7_6 : TT (Ex × Fr × SP) := evPre CL 2000 1 B7 T7_6.fr T7_6.sp
noncomputable def M7_7 : TT (Ex × Fr × SP) := evPre CL 2000 1 B7 T7_7.fr T7_7.sp
noncomputable def M7_8 : TT (Ex × Fr × SP) := evPre CL 2000 1 B7 T7_8.fr T7_8.sp
noncomputable def M7_9 : TT (Ex × Fr × SP) := evPre CL 2000 1 B7 T7_9.fr T7_9.sp
noncomputable def M7_10 : TT (Ex × Fr × SP) := evPre CL 2000 1 B7 T7_10.fr T7_10.sp
noncomputable def M7_11 : TT (Ex × Fr × SP) := evPre CL 2000 1 B7 T7_11.fr T7_11.sp
noncomputable def M7_12 : TT (Ex × Fr × SP) := evPre CL 2000 1 B7 T7_12.fr T7_12.sp
noncomputable def M7_13 : TT (Ex × Fr × SP) := evPre CL 2000 1 B7 T7_13.fr T7_13.sp
noncomputable def M7_14 : TT (Ex × Fr × SP) := evPre CL 2000 1 B7 T7_14.fr T7_14.sp
noncomputable def M7_15 : TT (Ex × Fr × SP) := evPre CL 2000 1 B7 T7_15.fr T7_15.sp
noncomputable def MF_0 : TT (Ex × Fr × SP) := evCodeD CL 2000 B8 T8_0.fr T8_0.sp
noncomputable def MF_1 : TT (Ex × Fr × SP) := evCodeD CL 2000 B8 T8_1.fr T8_1.sp
noncomputable def MF_2 : TT (Ex × Fr × SP) := evCodeD CL 2000 B8 T8_2.fr T8_2.sp
noncomputable def MF_3 : TT (Ex × Fr × SP) := evCodeD CL 2000 B8 T8_3.fr T8_3.sp
end Go.Proofs.YtaclekenckkgcaaGreatDoor.seqBells

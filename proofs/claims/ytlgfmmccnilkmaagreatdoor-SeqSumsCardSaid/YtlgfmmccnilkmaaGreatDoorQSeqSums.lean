/- SeqSums: a loop that sums comes to its sum, in so many steps. No condition. -/
import Derived.Test.YtlgfmmccnilkmaaGreatDoorSSeqSumsa
import Derived.Test.YtlgfmmccnilkmaaGreatDoorSyAr
import Derived.Test.YtlgfmmccnilkmaaGreatDoorSyFin
import Derived.Test.YtlgfmmccnilkmaaGreatDoorSyNest
import Derived.Test.YtlgfmmccnilkmaaGreatDoorTie
import Derived.Test.YtlgfmmccnilkmaaGreatDoorCards
import Derived.SevenTiedAt
namespace Go.Proofs.YtlgfmmccnilkmaaGreatDoor.seqSums
open Go.Sx Go.ChangeShapes Go.WideShapes Go.ChangeAt Go.RowKit
set_option linter.unusedVariables false
set_option linter.unusedSimpArgs false
set_option maxRecDepth 1000000
def ob0 : SObj := .cells [(.slice 8 0 1 1 1), (.ptr 9 0), (.int .i64 (.lit 0))] false
def ob1 : SObj := .cells [(.ptr 12 0), (.bool (.lit false)), (.int .u32 (.lit 0)), (.bool (.lit false))] false
def ob2 : SObj := .cells [(.slice 9 0 1 1 1), (.ptr 10 0), (.int .i64 (.lit 18))] false
def ob3 : SObj := .cells [(.ptr 13 0), (.bool (.lit false)), (.int .u32 (.lit 0)), (.bool (.lit false))] false
def ob4 : SObj := .cells [(.slice 9 0 1 1 1), (.ptr 10 0), (.int .i64 (.lit 36))] false
def ob5 : SObj := .cells [(.slice 9 0 1 1 1), (.ptr 10 0), (.int .i64 (.lit 54))] false
def ob6 : SObj := .cells [(.slice 9 0 1 1 1), (.ptr 10 0), (.int .i64 (.lit 72))] false
def ob7 : SObj := .cells [(.slice 9 0 1 1 1), (.ptr 10 0), (.int .i64 (.lit 90))] false
def ob8 : SObj := .cells [(.slice 9 0 1 1 1), (.ptr 10 0), (.int .i64 (.lit 108))] false
def ob9 : SObj := .cells [(.slice 9 0 1 1 1), (.ptr 10 0), (.int .i64 (.lit 126))] false
def ob10 : SObj := .cells [(.slice 9 0 1 1 1), (.ptr 10 0), (.int .i64 (.lit 144))] false
def ob11 : SObj := .cells [(.slice 9 0 1 1 1), (.ptr 10 0), (.int .i64 (.lit 162))] false

theorem own : ownKnob Tryz.prog.godebug = none := by kernel_rfl
def shs : List (Bool × List CK) := [(false, [.int .i64]), (false, [.int .u32])]
def pc0 : PC := seeds (allK shs) []
theorem door_sz : doorH.sz = 6 := by kernel_rfl
theorem G_lt' : ∀ g id, G g = some id → id < 6 := fun g id h => by have := G_lt g id h; rwa [door_sz] at this
def B0 : ACode := af3.body
def T0_0 : Tp := ⟨symAs 0 shs ++ List.replicate (af3.ntmps - (symAs 0 shs).length) sundef, objsFrom 198 0 doorL, pc0⟩
def Ts0 : List Tp := [T0_0]
def Dc : DC := .seq (.run (.reg [⟨(some 4), (.p (.mv (.c (.bool (.lit false))))), none⟩]))
 (.seq (.run (.reg [⟨(some 13), (.call (.f 5) []), none⟩, ⟨(some 5), (.p (.mv (.t 13))), none⟩]))
 (.seq (.run (.seq (.reg [⟨(some 14), (.p (.mv (.t 5))), none⟩, ⟨(some 15), (.p (.un .not (.t 14))), none⟩])
 (.cond (.t 15) (.seq (.reg [⟨(some 4), (.p (.mv (.c (.bool (.lit false))))), none⟩])
 .ret)
 .skip)))
 (.mark 0 (.seq (.run (.reg [⟨(some 16), (.p (.mv (.t 0))), none⟩, ⟨(some 17), (.call (.f 6) [(.t 16), (.c (.int .i64 (.lit 30)))]), none⟩, ⟨(some 18), (.p (.bin 0 .add (.t 17) (.c (.int .i64 (.lit 1))))), none⟩, ⟨(some 0), (.p (.mv (.t 18))), none⟩]))
 (.fork [(0, 30, 1)] (.mark 1 (.seq (.run (.reg [⟨(some 19), (.p (.mv (.t 1))), none⟩, ⟨(some 20), (.p (.bin 0 .and (.t 19) (.c (.int .u32 (.lit 1023))))), none⟩, ⟨(some 1), (.p (.mv (.t 20))), none⟩]))
 (.seq (.run (.reg [⟨(some 21), (.p (.mv (.t 0))), none⟩, ⟨(some 22), (.p (.conv .u32 (.t 21))), none⟩, ⟨(some 23), (.call (.f 7) [(.c (.int .i64 (.lit 19))), (.c (.int .i64 (.lit 1))), (.c (.int .i64 (.lit 0))), (.c (.int .i64 (.lit 0))), (.t 22)]), none⟩, ⟨(some 24), (.p (.mv (.t 1))), none⟩, ⟨(some 25), (.call (.f 7) [(.c (.int .i64 (.lit 19))), (.c (.int .i64 (.lit 3))), (.c (.int .i64 (.lit 3))), (.c (.int .i64 (.lit 0))), (.t 24)]), none⟩, ⟨(some 26), (.call (.f 7) [(.c (.int .i64 (.lit 19))), (.c (.int .i64 (.lit 1))), (.c (.int .i64 (.lit 1))), (.c (.int .i64 (.lit 0))), (.c (.int .u32 (.lit 4294967295)))]), none⟩, ⟨(some 27), (.call (.f 7) [(.c (.int .i64 (.lit 6))), (.c (.int .i64 (.lit 0))), (.c (.int .i64 (.lit 1))), (.c (.int .i64 (.lit 0))), (.c (.int .u32 (.lit 4294967288)))]), none⟩, ⟨(some 28), (.call (.f 7) [(.c (.int .i64 (.lit 18))), (.c (.int .i64 (.lit 0))), (.c (.int .i64 (.lit 0))), (.c (.int .i64 (.lit 3))), (.c (.int .u32 (.lit 96)))]), none⟩, ⟨(some 29), (.mkArr 1 5 [(.int .u32 (.lit 0))] [(0, 1, (.t 23)), (1, 1, (.t 25)), (2, 1, (.t 26)), (3, 1, (.t 27)), (4, 1, (.t 28))]), none⟩, ⟨(some 6), (.p (.mv (.t 29))), none⟩]))
 (.seq (.run (.reg [⟨(some 31), (.p (.mv (.t 6))), none⟩, ⟨(some 32), (.call (.f 8) [(.c (.int .i64 (.lit 1))), (.c (.int .i64 (.lit 128))), (.t 31)]), none⟩, ⟨(some 30), (.p (.mv (.t 32))), none⟩, ⟨(some 33), (.p (.extract 0 (.t 30))), none⟩, ⟨(some 34), (.p (.extract 1 (.t 30))), none⟩, ⟨(some 7), (.p (.mv (.t 33))), none⟩, ⟨(some 8), (.p (.mv (.t 34))), none⟩]))
 (.seq (.run (.seq (.reg [⟨(some 35), (.p (.mv (.t 7))), none⟩, ⟨(some 36), (.p (.nilEq 0 false (.t 35) (.c .nilPtr))), none⟩, ⟨(some 37), (.p (.mv (.t 36))), none⟩, ⟨(some 38), (.p (.mv (.t 8))), (some (37, false))⟩, ⟨(some 39), (.ifEq true true [15, 17, 27, 36, 40, 58, 101, 102, 132, 134, 140, 198, 208] (.t 38) (.c .nilIface)), (some (37, false))⟩, ⟨(some 40), (.pick (.t 37) (.c (.bool (.lit true))) (.t 39)), none⟩])
 (.cond (.t 40) (.seq (.reg [⟨(some 4), (.p (.mv (.c (.bool (.lit false))))), none⟩])
 .ret)
 .skip)))
 (.seq (.run (.reg [⟨(some 41), (.p (.mv (.t 0))), none⟩, ⟨(some 42), (.p (.bin 0 .mul (.c (.int .i64 (.lit 3))) (.t 41))), none⟩, ⟨(some 43), (.p (.bin 0 .add (.t 42) (.c (.int .i64 (.lit 2))))), none⟩, ⟨(some 44), (.mkSl 1 8 [(.int .i64 (.lit 0))] (.t 43) (.t 43)), none⟩, ⟨(some 9), (.p (.mv (.t 44))), none⟩]))
 (.seq (.call [⟨(some 45), (.p (.mv (.t 7))), none⟩, ⟨(some 46), (.p (.mv (.t 9))), none⟩] ⟨(some 47), (.call (.f 9) [(.t 45), (.t 46)]), none⟩ [⟨(some 10), (.p (.mv (.t 47))), none⟩] 9 29 [.t 4]
 (.seq (.run (.reg [⟨(some 4), (.p (.mv (.c .nilSlice))), none⟩]))
 (.seq (.run (.reg [⟨(some 5), (.p (.mv (.c .nilSlice))), none⟩]))
 (.seq (.seq (.run (.reg [⟨(some 10), (.p (.mv (.t 1))), none⟩, ⟨(some 11), (.p (.lenS (.t 10))), none⟩, ⟨(some 12), (.p (.mv (.c (.int .i64 (.lit 0))))), none⟩]))
 (.block 0 (.loop 2 8 (.run (.seq (.reg [⟨(some 13), (.p (.bin 0 .lss (.t 12) (.t 11))), none⟩])
 (.seq (.cond (.t 13) .skip
 (.exit 0))
 (.seq (.block 1 (.seq (.reg [⟨(some 14), (.p (.idxSl 1 (.t 10) (.t 12))), none⟩, ⟨(some 15), (.load false 1 (.t 14)), none⟩, ⟨(some 7), (.p (.mv (.t 15))), none⟩])
 (.seq (.reg [⟨(some 17), (.p (.mv (.t 0))), none⟩, ⟨(some 18), (.p (.mv (.t 7))), none⟩, ⟨(some 19), (.call (.f 20) [(.t 17), (.t 18)]), none⟩, ⟨(some 16), (.p (.mv (.t 19))), none⟩, ⟨(some 20), (.p (.extract 0 (.t 16))), none⟩, ⟨(some 21), (.p (.extract 1 (.t 16))), none⟩, ⟨(some 8), (.newC [(.int .i64 (.lit 0)), (.int .u32 (.lit 0)), (.int .u32 (.lit 0)), (.int .u32 (.lit 0)), (.int .u32 (.lit 0)), (.int .u32 (.lit 0)), .nilSlice, .nilSlice, (.int .u32 (.lit 0)), (.int .u32 (.lit 0)), (.bool (.lit false)), (.int .i64 (.lit 0)), (.int .i64 (.lit 0))]), none⟩, ⟨none, (.store 13 (.t 8) (.t 20)), none⟩, ⟨(some 9), (.p (.mv (.t 21))), none⟩])
 (.seq (.reg [⟨(some 22), (.p (.mv (.t 9))), none⟩])
 (.cond (.t 22) (.reg [⟨(some 23), (.p (.mv (.t 5))), none⟩, ⟨(some 24), (.load true 13 (.t 8)), none⟩, ⟨(some 25), (.mkArr 13 1 [(.int .i64 (.lit 0)), (.int .u32 (.lit 0)), (.int .u32 (.lit 0)), (.int .u32 (.lit 0)), (.int .u32 (.lit 0)), (.int .u32 (.lit 0)), .nilSlice, .nilSlice, (.int .u32 (.lit 0)), (.int .u32 (.lit 0)), (.bool (.lit false)), (.int .i64 (.lit 0)), (.int .i64 (.lit 0))] [(0, 13, (.t 24))]), none⟩, ⟨(some 26), (.append 13 112 (.t 23) (.t 25)), none⟩, ⟨(some 5), (.p (.mv (.t 26))), none⟩])
 .skip)))))
 (.reg [⟨(some 27), (.p (.bin 0 .add (.t 12) (.c (.int .i64 (.lit 1))))), none⟩, ⟨(some 12), (.p (.mv (.t 27))), none⟩]))))))))
 (.run (.seq (.reg [⟨(some 28), (.p (.mv (.t 5))), none⟩, ⟨(some 4), (.p (.mv (.t 28))), none⟩])
 .ret))))))
 (.run (.seq (.reg [⟨(some 49), (.p (.mv (.t 7))), none⟩, ⟨(some 50), (.call (.f 10) [(.t 49)]), none⟩, ⟨(some 51), (.call (.f 11) [(.t 50), (.c (.int .u32 (.lit 96))), (.c (.int .i64 (.lit 4)))]), none⟩, ⟨(some 48), (.p (.mv (.t 51))), none⟩, ⟨(some 52), (.p (.extract 0 (.t 48))), none⟩, ⟨(some 53), (.p (.extract 1 (.t 48))), none⟩, ⟨(some 11), (.p (.mv (.t 52))), none⟩, ⟨(some 12), (.p (.mv (.t 53))), none⟩])
 (.seq (.reg [⟨(some 54), (.p (.mv (.t 5))), none⟩, ⟨(some 55), (.p (.mv (.t 54))), none⟩, ⟨(some 56), (.p (.mv (.t 10))), (some (55, true))⟩, ⟨(some 57), (.p (.lenS (.t 56))), (some (55, true))⟩, ⟨(some 58), (.p (.mv (.t 0))), (some (55, true))⟩, ⟨(some 59), (.p (.bin 0 .mul (.c (.int .i64 (.lit 3))) (.t 58))), (some (55, true))⟩, ⟨(some 60), (.p (.bin 0 .add (.t 59) (.c (.int .i64 (.lit 2))))), (some (55, true))⟩, ⟨(some 61), (.p (.bin 0 .eql (.t 57) (.t 60))), (some (55, true))⟩, ⟨(some 62), (.pick (.t 55) (.t 61) (.c (.bool (.lit false)))), none⟩, ⟨(some 63), (.p (.mv (.t 62))), none⟩, ⟨(some 64), (.p (.mv (.t 11))), (some (63, true))⟩, ⟨(some 65), (.p (.mv (.t 0))), (some (63, true))⟩, ⟨(some 66), (.p (.conv .u32 (.t 65))), (some (63, true))⟩, ⟨(some 67), (.p (.mv (.t 1))), (some (63, true))⟩, ⟨(some 68), (.p (.bin 0 .mul (.t 66) (.t 67))), (some (63, true))⟩, ⟨(some 69), (.p (.bin 0 .eql (.t 64) (.t 68))), (some (63, true))⟩, ⟨(some 70), (.pick (.t 63) (.t 69) (.c (.bool (.lit false)))), none⟩, ⟨(some 71), (.p (.mv (.t 70))), none⟩, ⟨(some 72), (.p (.mv (.t 7))), (some (71, true))⟩, ⟨(some 73), (.call (.f 12) [(.t 72)]), (some (71, true))⟩, ⟨(some 74), (.p (.mv (.t 0))), (some (71, true))⟩, ⟨(some 75), (.p (.bin 0 .mul (.c (.int .i64 (.lit 3))) (.t 74))), (some (71, true))⟩, ⟨(some 76), (.p (.bin 0 .add (.t 75) (.c (.int .i64 (.lit 2))))), (some (71, true))⟩, ⟨(some 77), (.p (.bin 0 .mul (.c (.int .i64 (.lit 2))) (.t 76))), (some (71, true))⟩, ⟨(some 78), (.p (.bin 0 .eql (.t 73) (.t 77))), (some (71, true))⟩, ⟨(some 79), (.pick (.t 71) (.t 78) (.c (.bool (.lit false)))), none⟩, ⟨(some 80), (.p (.mv (.t 79))), none⟩, ⟨(some 81), (.p (.mv (.t 7))), (some (80, true))⟩, ⟨(some 82), (.call (.f 13) [(.t 81), (.c (.int .i64 (.lit 0)))]), (some (80, true))⟩, ⟨(some 83), (.call (.f 14) [(.t 82)]), (some (80, true))⟩, ⟨(some 84), (.p (.bin 0 .eql (.t 83) (.c (.int .u32 (.lit 20))))), (some (80, true))⟩, ⟨(some 85), (.pick (.t 80) (.t 84) (.c (.bool (.lit false)))), none⟩, ⟨(some 4), (.p (.mv (.t 85))), none⟩])
 .ret)))))))))))))))
theorem Dv : Dc.valid F := ⟨trivial, ⟨trivial, ⟨trivial, ⟨trivial, ⟨trivial, ⟨trivial, ⟨trivial, ⟨trivial, ⟨trivial, ⟨⟨by kernel_rfl, ⟨trivial, ⟨trivial, ⟨⟨trivial, trivial⟩, trivial⟩⟩⟩⟩, trivial⟩⟩⟩⟩⟩⟩⟩⟩⟩⟩
theorem De : af3.body = Dc.erase := by kernel_rfl
theorem Du : Dc.runs Tryz.prog := by
  obtain ⟨fn, c, _, _, h3, _⟩ := func_of (C := CL) hF (f := 3) (nt := af3.ntmps) (res := af3.res) (b := af3.body) rfl
  exact runs_of (C := CL) hF Dv (h3.trans (congrArg some De))
def tm13 : SE := .cv .u32 (.var 0)
def tm1 : SE := .bin .or .u32 (.bin .shl .u32 (.bin .and .u32 tm13 (.lit 15)) (.lit 4)) (.lit 1)
def tm11 : SE := .bin .and .u32 (.bin .shr .u32 tm13 (.lit 4)) (.lit 63)
def tm0 : SE := .bin .or .u32 (.bin .or .u32 (.lit 33171) (.bin .shl .u32 tm1 (.lit 16))) (.bin .shl .u32 tm11 (.lit 24))
def tm12 : SE := .bin .and .u32 tm13 (.lit 1023)
def tm2 : SE := .bin .mul .u32 (.lit 12) tm12
def tm3 : SE := .bin .mul .u32 (.lit 15) tm12
def tm4 : SE := .bin .mul .u32 (.lit 18) tm12
def tm5 : SE := .bin .mul .u32 (.lit 21) tm12
def tm6 : SE := .bin .mul .u32 (.lit 24) tm12
def tm7 : SE := .bin .mul .u32 (.lit 27) tm12
def tm8 : SE := .bin .mul .u32 (.lit 3) tm12
def tm9 : SE := .bin .mul .u32 (.lit 6) tm12
def tm10 : SE := .bin .mul .u32 (.lit 9) tm12
def ce0 : List SV := [(.int .u8 (.lit 156)), (.int .u8 (.lit 0)), (.int .u8 (.lit 254)), (.int .u8 (.lit 35)), (.int .u8 (.lit 32)), (.int .u8 (.lit 48)), (.int .u8 (.lit 6)), (.int .u8 (.lit 0)), (.int .u8 (.lit 0)), (.int .u8 (.lit 0)), (.int .u8 (.lit 0)), (.int .u8 (.lit 0)), (.int .u8 (.lit 0))]
def ce1 : List SV := [(.int .u8 (.lit 0)), (.int .u8 (.lit 0)), (.int .u8 (.lit 0)), (.int .u8 (.lit 0)), (.int .u8 (.lit 0)), (.int .u8 (.lit 0)), (.int .u8 (.lit 0)), (.int .u8 (.lit 0)), (.int .u8 (.lit 0)), (.int .u8 (.lit 0)), (.int .u8 (.lit 0)), (.int .u8 (.lit 0)), (.int .u8 (.lit 0))]
def ce2 : List SV := [(.int .u8 (.lit 0)), (.int .u8 (.lit 0)), (.int .u8 (.lit 0)), (.int .u8 (.lit 0)), (.int .u8 (.lit 0)), (.int .u8 (.lit 0)), (.int .u8 (.lit 0)), (.int .u8 (.lit 0)), (.int .u8 (.lit 0)), (.int .u8 (.lit 0)), (.int .u8 (.lit 0))]
def ce3 : List SV := [(.bool (.lit false)), (.int .u32 (.lit 0)), (.int .u32 (.lit 0)), (.int .u32 (.lit 0)), (.int .u32 (.lit 0)), (.int .u32 (.lit 0)), (.int .u32 (.lit 0)), (.int .u32 (.lit 0)), (.int .u32 (.lit 0)), (.int .u32 (.lit 0)), (.int .u32 (.lit 0)), (.int .u32 (.lit 0)), (.int .u32 (.lit 0))]
def ce4 : List SV := [(.int .u32 (.lit 0)), (.int .u32 (.lit 0)), (.int .u32 (.lit 0)), (.int .u32 (.lit 0)), (.int .u32 (.lit 0)), (.int .u32 (.lit 0)), (.int .u32 (.lit 0)), (.int .u32 (.lit 0)), (.int .u32 (.lit 0)), (.int .u32 (.lit 0)), (.int .u32 (.lit 0)), (.int .u32 (.lit 0)), (.int .u32 (.lit 0))]
def ce5 : List SV := [(.int .u32 (.lit 0)), (.int .u32 (.lit 0)), (.int .u32 (.lit 0)), (.int .u32 (.lit 0)), (.int .u32 (.lit 0)), (.int .i64 (.lit 128))]
def ce6 : List SV := [(.int .i64 (.lit 0)), (.int .i64 (.lit 0)), (.int .i64 (.lit 0)), (.int .i64 (.lit 0)), (.int .i64 (.lit 0)), (.int .i64 (.lit 0)), (.int .i64 (.lit 0)), (.int .i64 (.lit 0))]
def ce7 : List SV := [(.int .i64 (.lit 0)), (.int .i64 (.lit 0)), (.int .i64 (.lit 0)), (.int .i64 (.lit 0)), (.int .i64 (.lit 0)), (.int .i64 (.lit 0)), (.int .i64 (.lit 0)), (.int .i64 (.lit 0)), (.int .i64 (.lit 0)), (.int .i64 (.lit 0)), (.int .i64 (.lit 0))]
def ce8 : List SV := [(.int .u8 (.lit 147)), (.int .u8 (.lit 0)), (.int .u8 (.lit 48)), (.int .u8 (.lit 0)), (.int .u8 (.lit 147)), (.int .u8 (.lit 129)), (.int .u8 tm1), (.int .u8 tm11), (.int .u8 (.lit 147)), (.int .u8 (.lit 128)), (.int .u8 (.lit 240)), (.int .u8 (.lit 255)), (.int .u8 (.lit 227))]
def ce9 : List SV := [(.int .i64 (.lit 0)), (.int .i64 (.lit 0)), (.int .i64 (.lit 0)), (.int .i64 (.lit 0)), (.int .i64 (.lit 0)), (.int .i64 (.lit 0)), (.int .i64 (.lit 0)), (.int .i64 (.lit 0)), (.int .i64 (.lit 0)), (.int .i64 (.lit 0)), (.int .i64 (.lit 0)), (.int .i64 (.lit 0)), (.int .i64 (.lit 0))]
def ce10 : List SV := [(.int .i64 (.lit 0))]
def ce11 : List SV := [(.int .u8 (.lit 147)), (.int .u8 (.lit 0)), (.int .u8 (.lit 64)), (.int .u8 (.lit 0)), (.int .u8 (.lit 147)), (.int .u8 (.lit 129)), (.int .u8 tm1), (.int .u8 tm11), (.int .u8 (.lit 147)), (.int .u8 (.lit 128)), (.int .u8 (.lit 240)), (.int .u8 (.lit 255)), (.int .u8 (.lit 227))]
def ce12 : List SV := [(.int .i64 (.lit 0)), (.int .i64 (.lit 0)), (.int .i64 (.lit 0)), (.int .i64 (.lit 0))]
def ce13 : List SV := [(.int .u8 (.lit 147)), (.int .u8 (.lit 0)), (.int .u8 (.lit 80)), (.int .u8 (.lit 0)), (.int .u8 (.lit 147)), (.int .u8 (.lit 129)), (.int .u8 tm1), (.int .u8 tm11), (.int .u8 (.lit 147)), (.int .u8 (.lit 128)), (.int .u8 (.lit 240)), (.int .u8 (.lit 255)), (.int .u8 (.lit 227))]
def ce14 : List SV := [(.int .i64 (.lit 0)), (.int .i64 (.lit 0)), (.int .i64 (.lit 0)), (.int .i64 (.lit 0)), (.int .i64 (.lit 0)), (.int .i64 (.lit 0)), (.int .i64 (.lit 0))]
def ce15 : List SV := [(.int .u8 (.lit 147)), (.int .u8 (.lit 0)), (.int .u8 (.lit 96)), (.int .u8 (.lit 0)), (.int .u8 (.lit 147)), (.int .u8 (.lit 129)), (.int .u8 tm1), (.int .u8 tm11), (.int .u8 (.lit 147)), (.int .u8 (.lit 128)), (.int .u8 (.lit 240)), (.int .u8 (.lit 255)), (.int .u8 (.lit 227))]
def ce16 : List SV := [(.int .i64 (.lit 0)), (.int .i64 (.lit 0)), (.int .i64 (.lit 0)), (.int .i64 (.lit 0)), (.int .i64 (.lit 0)), (.int .i64 (.lit 0)), (.int .i64 (.lit 0)), (.int .i64 (.lit 0)), (.int .i64 (.lit 0)), (.int .i64 (.lit 0))]
def ce17 : List SV := [(.int .u8 (.lit 147)), (.int .u8 (.lit 0)), (.int .u8 (.lit 112)), (.int .u8 (.lit 0)), (.int .u8 (.lit 147)), (.int .u8 (.lit 129)), (.int .u8 tm1), (.int .u8 tm11), (.int .u8 (.lit 147)), (.int .u8 (.lit 128)), (.int .u8 (.lit 240)), (.int .u8 (.lit 255)), (.int .u8 (.lit 227))]
def ce18 : List SV := [(.int .u8 (.lit 147)), (.int .u8 (.lit 0)), (.int .u8 (.lit 128)), (.int .u8 (.lit 0)), (.int .u8 (.lit 147)), (.int .u8 (.lit 129)), (.int .u8 tm1), (.int .u8 tm11), (.int .u8 (.lit 147)), (.int .u8 (.lit 128)), (.int .u8 (.lit 240)), (.int .u8 (.lit 255)), (.int .u8 (.lit 227))]
def ce19 : List SV := [(.int .i64 (.lit 0)), (.int .i64 (.lit 0)), (.int .i64 (.lit 0))]
def ce20 : List SV := [(.int .u8 (.lit 147)), (.int .u8 (.lit 0)), (.int .u8 (.lit 144)), (.int .u8 (.lit 0)), (.int .u8 (.lit 147)), (.int .u8 (.lit 129)), (.int .u8 tm1), (.int .u8 tm11), (.int .u8 (.lit 147)), (.int .u8 (.lit 128)), (.int .u8 (.lit 240)), (.int .u8 (.lit 255)), (.int .u8 (.lit 227))]
def ce21 : List SV := [(.int .i64 (.lit 0)), (.int .i64 (.lit 0)), (.int .i64 (.lit 0)), (.int .i64 (.lit 0)), (.int .i64 (.lit 0)), (.int .i64 (.lit 0))]
def ce22 : List SV := [(.int .u8 (.lit 147)), (.int .u8 (.lit 0)), (.int .u8 (.lit 160)), (.int .u8 (.lit 0)), (.int .u8 (.lit 147)), (.int .u8 (.lit 129)), (.int .u8 tm1), (.int .u8 tm11), (.int .u8 (.lit 147)), (.int .u8 (.lit 128)), (.int .u8 (.lit 240)), (.int .u8 (.lit 255)), (.int .u8 (.lit 227))]
def ce23 : List SV := [(.int .i64 (.lit 0)), (.int .i64 (.lit 0)), (.int .i64 (.lit 0)), (.int .i64 (.lit 0)), (.int .i64 (.lit 0)), (.int .i64 (.lit 0)), (.int .i64 (.lit 0)), (.int .i64 (.lit 0)), (.int .i64 (.lit 0))]
def ce24 : List SV := [(.int .u8 (.lit 147)), (.int .u8 (.lit 0)), (.int .u8 (.lit 176)), (.int .u8 (.lit 0)), (.int .u8 (.lit 147)), (.int .u8 (.lit 129)), (.int .u8 tm1), (.int .u8 tm11), (.int .u8 (.lit 147)), (.int .u8 (.lit 128)), (.int .u8 (.lit 240)), (.int .u8 (.lit 255)), (.int .u8 (.lit 227))]
def ce25 : List SV := [(.int .i64 (.lit 0)), (.int .i64 (.lit 0)), (.int .i64 (.lit 0)), (.int .i64 (.lit 0)), (.int .i64 (.lit 0)), (.int .i64 (.lit 0)), (.int .i64 (.lit 0)), (.int .i64 (.lit 0)), (.int .i64 (.lit 0)), (.int .i64 (.lit 0)), (.int .i64 (.lit 0)), (.int .i64 (.lit 0))]
def ce26 : List SV := [(.int .u8 (.lit 147)), (.int .u8 (.lit 0)), (.int .u8 (.lit 192)), (.int .u8 (.lit 0)), (.int .u8 (.lit 147)), (.int .u8 (.lit 129)), (.int .u8 tm1), (.int .u8 tm11), (.int .u8 (.lit 147)), (.int .u8 (.lit 128)), (.int .u8 (.lit 240)), (.int .u8 (.lit 255)), (.int .u8 (.lit 227))]
def ce27 : List SV := [(.int .i64 (.lit 0)), (.int .i64 (.lit 0))]
def ce28 : List SV := [(.int .u8 (.lit 147)), (.int .u8 (.lit 0)), (.int .u8 (.lit 208)), (.int .u8 (.lit 0)), (.int .u8 (.lit 147)), (.int .u8 (.lit 129)), (.int .u8 tm1), (.int .u8 tm11), (.int .u8 (.lit 147)), (.int .u8 (.lit 128)), (.int .u8 (.lit 240)), (.int .u8 (.lit 255)), (.int .u8 (.lit 227))]
def ce29 : List SV := [(.int .i64 (.lit 0)), (.int .i64 (.lit 0)), (.int .i64 (.lit 0)), (.int .i64 (.lit 0)), (.int .i64 (.lit 0))]
def ce30 : List SV := [(.int .u8 (.lit 147)), (.int .u8 (.lit 0)), (.int .u8 (.lit 224)), (.int .u8 (.lit 0)), (.int .u8 (.lit 147)), (.int .u8 (.lit 129)), (.int .u8 tm1), (.int .u8 tm11), (.int .u8 (.lit 147)), (.int .u8 (.lit 128)), (.int .u8 (.lit 240)), (.int .u8 (.lit 255)), (.int .u8 (.lit 227))]
def ce31 : List SV := [(.int .u8 (.lit 147)), (.int .u8 (.lit 0)), (.int .u8 (.lit 240)), (.int .u8 (.lit 0)), (.int .u8 (.lit 147)), (.int .u8 (.lit 129)), (.int .u8 tm1), (.int .u8 tm11), (.int .u8 (.lit 147)), (.int .u8 (.lit 128)), (.int .u8 (.lit 240)), (.int .u8 (.lit 255)), (.int .u8 (.lit 227))]
def ce32 : List SV := [(.int .u8 (.lit 147)), (.int .u8 (.lit 0)), (.int .u8 (.lit 0)), (.int .u8 (.lit 1)), (.int .u8 (.lit 147)), (.int .u8 (.lit 129)), (.int .u8 tm1), (.int .u8 tm11), (.int .u8 (.lit 147)), (.int .u8 (.lit 128)), (.int .u8 (.lit 240)), (.int .u8 (.lit 255)), (.int .u8 (.lit 227))]
def ce33 : List SV := [(.int .u8 (.lit 147)), (.int .u8 (.lit 0)), (.int .u8 (.lit 16)), (.int .u8 (.lit 1)), (.int .u8 (.lit 147)), (.int .u8 (.lit 129)), (.int .u8 tm1), (.int .u8 tm11), (.int .u8 (.lit 147)), (.int .u8 (.lit 128)), (.int .u8 (.lit 240)), (.int .u8 (.lit 255)), (.int .u8 (.lit 227))]
def ce34 : List SV := [(.int .u8 (.lit 147)), (.int .u8 (.lit 0)), (.int .u8 (.lit 32)), (.int .u8 (.lit 1)), (.int .u8 (.lit 147)), (.int .u8 (.lit 129)), (.int .u8 tm1), (.int .u8 tm11), (.int .u8 (.lit 147)), (.int .u8 (.lit 128)), (.int .u8 (.lit 240)), (.int .u8 (.lit 255)), (.int .u8 (.lit 227))]
def ce35 : List SV := [(.int .u8 (.lit 147)), (.int .u8 (.lit 0)), (.int .u8 (.lit 48)), (.int .u8 (.lit 1)), (.int .u8 (.lit 147)), (.int .u8 (.lit 129)), (.int .u8 tm1), (.int .u8 tm11), (.int .u8 (.lit 147)), (.int .u8 (.lit 128)), (.int .u8 (.lit 240)), (.int .u8 (.lit 255)), (.int .u8 (.lit 227))]
def ce36 : List SV := [(.int .u8 (.lit 147)), (.int .u8 (.lit 0)), (.int .u8 (.lit 64)), (.int .u8 (.lit 1)), (.int .u8 (.lit 147)), (.int .u8 (.lit 129)), (.int .u8 tm1), (.int .u8 tm11), (.int .u8 (.lit 147)), (.int .u8 (.lit 128)), (.int .u8 (.lit 240)), (.int .u8 (.lit 255)), (.int .u8 (.lit 227))]
def ce37 : List SV := [(.int .u8 (.lit 147)), (.int .u8 (.lit 0)), (.int .u8 (.lit 80)), (.int .u8 (.lit 1)), (.int .u8 (.lit 147)), (.int .u8 (.lit 129)), (.int .u8 tm1), (.int .u8 tm11), (.int .u8 (.lit 147)), (.int .u8 (.lit 128)), (.int .u8 (.lit 240)), (.int .u8 (.lit 255)), (.int .u8 (.lit 227))]
def ce38 : List SV := [(.int .u8 (.lit 147)), (.int .u8 (.lit 0)), (.int .u8 (.lit 96)), (.int .u8 (.lit 1)), (.int .u8 (.lit 147)), (.int .u8 (.lit 129)), (.int .u8 tm1), (.int .u8 tm11), (.int .u8 (.lit 147)), (.int .u8 (.lit 128)), (.int .u8 (.lit 240)), (.int .u8 (.lit 255)), (.int .u8 (.lit 227))]
def ce39 : List SV := [(.int .u8 (.lit 147)), (.int .u8 (.lit 0)), (.int .u8 (.lit 112)), (.int .u8 (.lit 1)), (.int .u8 (.lit 147)), (.int .u8 (.lit 129)), (.int .u8 tm1), (.int .u8 tm11), (.int .u8 (.lit 147)), (.int .u8 (.lit 128)), (.int .u8 (.lit 240)), (.int .u8 (.lit 255)), (.int .u8 (.lit 227))]
def ce40 : List SV := [(.int .u8 (.lit 147)), (.int .u8 (.lit 0)), (.int .u8 (.lit 128)), (.int .u8 (.lit 1)), (.int .u8 (.lit 147)), (.int .u8 (.lit 129)), (.int .u8 tm1), (.int .u8 tm11), (.int .u8 (.lit 147)), (.int .u8 (.lit 128)), (.int .u8 (.lit 240)), (.int .u8 (.lit 255)), (.int .u8 (.lit 227))]
def ce41 : List SV := [(.int .u8 (.lit 147)), (.int .u8 (.lit 0)), (.int .u8 (.lit 144)), (.int .u8 (.lit 1)), (.int .u8 (.lit 147)), (.int .u8 (.lit 129)), (.int .u8 tm1), (.int .u8 tm11), (.int .u8 (.lit 147)), (.int .u8 (.lit 128)), (.int .u8 (.lit 240)), (.int .u8 (.lit 255)), (.int .u8 (.lit 227))]
def ce42 : List SV := [(.int .u8 (.lit 147)), (.int .u8 (.lit 0)), (.int .u8 (.lit 160)), (.int .u8 (.lit 1)), (.int .u8 (.lit 147)), (.int .u8 (.lit 129)), (.int .u8 tm1), (.int .u8 tm11), (.int .u8 (.lit 147)), (.int .u8 (.lit 128)), (.int .u8 (.lit 240)), (.int .u8 (.lit 255)), (.int .u8 (.lit 227))]
def ce43 : List SV := [(.int .u8 (.lit 147)), (.int .u8 (.lit 0)), (.int .u8 (.lit 176)), (.int .u8 (.lit 1)), (.int .u8 (.lit 147)), (.int .u8 (.lit 129)), (.int .u8 tm1), (.int .u8 tm11), (.int .u8 (.lit 147)), (.int .u8 (.lit 128)), (.int .u8 (.lit 240)), (.int .u8 (.lit 255)), (.int .u8 (.lit 227))]
def ce44 : List SV := [(.int .u8 (.lit 147)), (.int .u8 (.lit 0)), (.int .u8 (.lit 192)), (.int .u8 (.lit 1)), (.int .u8 (.lit 147)), (.int .u8 (.lit 129)), (.int .u8 tm1), (.int .u8 tm11), (.int .u8 (.lit 147)), (.int .u8 (.lit 128)), (.int .u8 (.lit 240)), (.int .u8 (.lit 255)), (.int .u8 (.lit 227))]
def ce45 : List SV := [(.int .u8 (.lit 147)), (.int .u8 (.lit 0)), (.int .u8 (.lit 208)), (.int .u8 (.lit 1)), (.int .u8 (.lit 147)), (.int .u8 (.lit 129)), (.int .u8 tm1), (.int .u8 tm11), (.int .u8 (.lit 147)), (.int .u8 (.lit 128)), (.int .u8 (.lit 240)), (.int .u8 (.lit 255)), (.int .u8 (.lit 227))]
def ce46 : List SV := [(.int .u8 (.lit 147)), (.int .u8 (.lit 0)), (.int .u8 (.lit 224)), (.int .u8 (.lit 1)), (.int .u8 (.lit 147)), (.int .u8 (.lit 129)), (.int .u8 tm1), (.int .u8 tm11), (.int .u8 (.lit 147)), (.int .u8 (.lit 128)), (.int .u8 (.lit 240)), (.int .u8 (.lit 255)), (.int .u8 (.lit 227))]
def ce47 : List SV := [(.int .i64 (.lit 1)), (.int .u32 (.lit 4)), (.int .u32 tm0), (.int .u32 (.lit 4)), (.int .u32 (.lit 0)), (.int .u32 (.lit 0)), .nilSlice, .nilSlice, (.int .u32 (.lit 0)), (.int .u32 (.lit 0)), (.bool (.lit false)), (.int .i64 (.lit 3)), (.int .i64 (.lit 4))]
def ce48 : List SV := [(.int .i64 (.lit 1)), (.int .u32 (.lit 8)), (.int .u32 (.lit 4293951635)), (.int .u32 (.lit 8)), (.int .u32 (.lit 0)), (.int .u32 (.lit 0)), .nilSlice, .nilSlice, (.int .u32 (.lit 0)), (.int .u32 (.lit 0)), (.bool (.lit false)), (.int .i64 (.lit 5)), (.int .i64 (.lit 6))]
def ce49 : List SV := [(.int .i64 (.lit 1)), (.int .u32 (.lit 12)), (.int .u32 (.lit 4261453027)), (.int .u32 (.lit 12)), (.int .u32 (.lit 0)), (.int .u32 (.lit 0)), .nilSlice, .nilSlice, (.int .u32 (.lit 0)), (.int .u32 (.lit 0)), (.bool (.lit false)), (.int .i64 (.lit 7)), (.int .i64 (.lit 8))]
def ce50 : List SV := [(.int .i64 (.lit 1)), (.int .u32 (.lit 4)), (.int .u32 tm0), (.int .u32 (.lit 4)), (.int .u32 (.lit 0)), (.int .u32 (.lit 0)), .nilSlice, .nilSlice, (.int .u32 (.lit 0)), (.int .u32 (.lit 0)), (.bool (.lit false)), (.int .i64 (.lit 9)), (.int .i64 (.lit 10))]
def ce51 : List SV := [(.int .i64 (.lit 1)), (.int .u32 (.lit 8)), (.int .u32 (.lit 4293951635)), (.int .u32 (.lit 8)), (.int .u32 (.lit 0)), (.int .u32 (.lit 0)), .nilSlice, .nilSlice, (.int .u32 (.lit 0)), (.int .u32 (.lit 0)), (.bool (.lit false)), (.int .i64 (.lit 11)), (.int .i64 (.lit 12))]
def ce52 : List SV := [(.int .i64 (.lit 1)), (.int .u32 (.lit 12)), (.int .u32 (.lit 4261453027)), (.int .u32 (.lit 12)), (.int .u32 (.lit 0)), (.int .u32 (.lit 0)), .nilSlice, .nilSlice, (.int .u32 (.lit 0)), (.int .u32 (.lit 0)), (.bool (.lit false)), (.int .i64 (.lit 13)), (.int .i64 (.lit 14))]
def ce53 : List SV := [(.int .i64 (.lit 1)), (.int .u32 (.lit 4)), (.int .u32 tm0), (.int .u32 (.lit 4)), (.int .u32 (.lit 0)), (.int .u32 (.lit 0)), .nilSlice, .nilSlice, (.int .u32 (.lit 0)), (.int .u32 (.lit 0)), (.bool (.lit false)), (.int .i64 (.lit 15)), (.int .i64 (.lit 16))]
def ce54 : List SV := [(.int .i64 (.lit 1)), (.int .u32 (.lit 8)), (.int .u32 (.lit 4293951635)), (.int .u32 (.lit 8)), (.int .u32 (.lit 0)), (.int .u32 (.lit 0)), .nilSlice, .nilSlice, (.int .u32 (.lit 0)), (.int .u32 (.lit 0)), (.bool (.lit false)), (.int .i64 (.lit 17)), (.int .i64 (.lit 18))]
def ce55 : List SV := [(.bool (.lit false)), (.int .u32 (.lit 0)), (.int .u32 (.lit 0)), (.int .u32 (.lit 0)), (.int .u32 (.lit 0)), (.int .u32 (.lit 0)), (.int .u32 (.lit 0)), (.int .u32 (.lit 0)), (.int .u32 (.lit 0)), (.int .u32 (.lit 0)), (.int .u32 (.lit 0)), (.int .u32 (.lit 12)), (.int .u32 (.lit 0))]
def ce56 : List SV := [(.int .i64 (.lit 1)), (.int .u32 (.lit 0)), (.int .u32 (.lit 6291603)), (.int .u32 (.lit 0)), (.int .u32 (.lit 0)), (.int .u32 (.lit 0)), .nilSlice, .nilSlice, (.int .u32 (.lit 0)), (.int .u32 (.lit 0)), (.bool (.lit false)), (.int .i64 (.lit 1)), (.int .i64 (.lit 2))]
def ce57 : List SV := [(.int .i64 (.lit 1)), (.int .u32 (.lit 0)), (.int .u32 (.lit 7340179)), (.int .u32 (.lit 0)), (.int .u32 (.lit 0)), (.int .u32 (.lit 0)), .nilSlice, .nilSlice, (.int .u32 (.lit 0)), (.int .u32 (.lit 0)), (.bool (.lit false)), (.int .i64 (.lit 1)), (.int .i64 (.lit 2))]
def ce58 : List SV := [(.int .i64 (.lit 1)), (.int .u32 (.lit 0)), (.int .u32 (.lit 8388755)), (.int .u32 (.lit 0)), (.int .u32 (.lit 0)), (.int .u32 (.lit 0)), .nilSlice, .nilSlice, (.int .u32 (.lit 0)), (.int .u32 (.lit 0)), (.bool (.lit false)), (.int .i64 (.lit 1)), (.int .i64 (.lit 2))]
def ce59 : List SV := [(.int .i64 (.lit 1)), (.int .u32 (.lit 0)), (.int .u32 (.lit 9437331)), (.int .u32 (.lit 0)), (.int .u32 (.lit 0)), (.int .u32 (.lit 0)), .nilSlice, .nilSlice, (.int .u32 (.lit 0)), (.int .u32 (.lit 0)), (.bool (.lit false)), (.int .i64 (.lit 1)), (.int .i64 (.lit 2))]
def ce60 : List SV := [(.int .i64 (.lit 1)), (.int .u32 (.lit 0)), (.int .u32 (.lit 10485907)), (.int .u32 (.lit 0)), (.int .u32 (.lit 0)), (.int .u32 (.lit 0)), .nilSlice, .nilSlice, (.int .u32 (.lit 0)), (.int .u32 (.lit 0)), (.bool (.lit false)), (.int .i64 (.lit 1)), (.int .i64 (.lit 2))]
def ce61 : List SV := [(.int .i64 (.lit 1)), (.int .u32 (.lit 0)), (.int .u32 (.lit 11534483)), (.int .u32 (.lit 0)), (.int .u32 (.lit 0)), (.int .u32 (.lit 0)), .nilSlice, .nilSlice, (.int .u32 (.lit 0)), (.int .u32 (.lit 0)), (.bool (.lit false)), (.int .i64 (.lit 1)), (.int .i64 (.lit 2))]
def ce62 : List SV := [(.int .i64 (.lit 1)), (.int .u32 (.lit 0)), (.int .u32 (.lit 12583059)), (.int .u32 (.lit 0)), (.int .u32 (.lit 0)), (.int .u32 (.lit 0)), .nilSlice, .nilSlice, (.int .u32 (.lit 0)), (.int .u32 (.lit 0)), (.bool (.lit false)), (.int .i64 (.lit 1)), (.int .i64 (.lit 2))]
def ce63 : List SV := [(.int .i64 (.lit 1)), (.int .u32 (.lit 0)), (.int .u32 (.lit 13631635)), (.int .u32 (.lit 0)), (.int .u32 (.lit 0)), (.int .u32 (.lit 0)), .nilSlice, .nilSlice, (.int .u32 (.lit 0)), (.int .u32 (.lit 0)), (.bool (.lit false)), (.int .i64 (.lit 1)), (.int .i64 (.lit 2))]
def ce64 : List SV := [(.int .i64 (.lit 1)), (.int .u32 (.lit 0)), (.int .u32 (.lit 14680211)), (.int .u32 (.lit 0)), (.int .u32 (.lit 0)), (.int .u32 (.lit 0)), .nilSlice, .nilSlice, (.int .u32 (.lit 0)), (.int .u32 (.lit 0)), (.bool (.lit false)), (.int .i64 (.lit 1)), (.int .i64 (.lit 2))]
def ce65 : List SV := [(.int .i64 (.lit 1)), (.int .u32 (.lit 0)), (.int .u32 (.lit 15728787)), (.int .u32 (.lit 0)), (.int .u32 (.lit 0)), (.int .u32 (.lit 0)), .nilSlice, .nilSlice, (.int .u32 (.lit 0)), (.int .u32 (.lit 0)), (.bool (.lit false)), (.int .i64 (.lit 1)), (.int .i64 (.lit 2))]
def ce66 : List SV := [(.int .i64 (.lit 1)), (.int .u32 (.lit 0)), (.int .u32 (.lit 16777363)), (.int .u32 (.lit 0)), (.int .u32 (.lit 0)), (.int .u32 (.lit 0)), .nilSlice, .nilSlice, (.int .u32 (.lit 0)), (.int .u32 (.lit 0)), (.bool (.lit false)), (.int .i64 (.lit 1)), (.int .i64 (.lit 2))]
def ce67 : List SV := [(.int .i64 (.lit 1)), (.int .u32 (.lit 0)), (.int .u32 (.lit 17825939)), (.int .u32 (.lit 0)), (.int .u32 (.lit 0)), (.int .u32 (.lit 0)), .nilSlice, .nilSlice, (.int .u32 (.lit 0)), (.int .u32 (.lit 0)), (.bool (.lit false)), (.int .i64 (.lit 1)), (.int .i64 (.lit 2))]
def ce68 : List SV := [(.int .i64 (.lit 1)), (.int .u32 (.lit 0)), (.int .u32 (.lit 18874515)), (.int .u32 (.lit 0)), (.int .u32 (.lit 0)), (.int .u32 (.lit 0)), .nilSlice, .nilSlice, (.int .u32 (.lit 0)), (.int .u32 (.lit 0)), (.bool (.lit false)), (.int .i64 (.lit 1)), (.int .i64 (.lit 2))]
def ce69 : List SV := [(.int .i64 (.lit 1)), (.int .u32 (.lit 0)), (.int .u32 (.lit 19923091)), (.int .u32 (.lit 0)), (.int .u32 (.lit 0)), (.int .u32 (.lit 0)), .nilSlice, .nilSlice, (.int .u32 (.lit 0)), (.int .u32 (.lit 0)), (.bool (.lit false)), (.int .i64 (.lit 1)), (.int .i64 (.lit 2))]
def ce70 : List SV := [(.int .i64 (.lit 1)), (.int .u32 (.lit 0)), (.int .u32 (.lit 20971667)), (.int .u32 (.lit 0)), (.int .u32 (.lit 0)), (.int .u32 (.lit 0)), .nilSlice, .nilSlice, (.int .u32 (.lit 0)), (.int .u32 (.lit 0)), (.bool (.lit false)), (.int .i64 (.lit 1)), (.int .i64 (.lit 2))]
def ce71 : List SV := [(.int .i64 (.lit 1)), (.int .u32 (.lit 0)), (.int .u32 (.lit 22020243)), (.int .u32 (.lit 0)), (.int .u32 (.lit 0)), (.int .u32 (.lit 0)), .nilSlice, .nilSlice, (.int .u32 (.lit 0)), (.int .u32 (.lit 0)), (.bool (.lit false)), (.int .i64 (.lit 1)), (.int .i64 (.lit 2))]
def ce72 : List SV := [(.int .i64 (.lit 1)), (.int .u32 (.lit 0)), (.int .u32 (.lit 23068819)), (.int .u32 (.lit 0)), (.int .u32 (.lit 0)), (.int .u32 (.lit 0)), .nilSlice, .nilSlice, (.int .u32 (.lit 0)), (.int .u32 (.lit 0)), (.bool (.lit false)), (.int .i64 (.lit 1)), (.int .i64 (.lit 2))]
def ce73 : List SV := [(.int .i64 (.lit 1)), (.int .u32 (.lit 0)), (.int .u32 (.lit 24117395)), (.int .u32 (.lit 0)), (.int .u32 (.lit 0)), (.int .u32 (.lit 0)), .nilSlice, .nilSlice, (.int .u32 (.lit 0)), (.int .u32 (.lit 0)), (.bool (.lit false)), (.int .i64 (.lit 1)), (.int .i64 (.lit 2))]
def ce74 : List SV := [(.int .i64 (.lit 1)), (.int .u32 (.lit 0)), (.int .u32 (.lit 25165971)), (.int .u32 (.lit 0)), (.int .u32 (.lit 0)), (.int .u32 (.lit 0)), .nilSlice, .nilSlice, (.int .u32 (.lit 0)), (.int .u32 (.lit 0)), (.bool (.lit false)), (.int .i64 (.lit 1)), (.int .i64 (.lit 2))]
def ce75 : List SV := [(.int .i64 (.lit 1)), (.int .u32 (.lit 0)), (.int .u32 (.lit 26214547)), (.int .u32 (.lit 0)), (.int .u32 (.lit 0)), (.int .u32 (.lit 0)), .nilSlice, .nilSlice, (.int .u32 (.lit 0)), (.int .u32 (.lit 0)), (.bool (.lit false)), (.int .i64 (.lit 1)), (.int .i64 (.lit 2))]
def ce76 : List SV := [(.int .i64 (.lit 1)), (.int .u32 (.lit 0)), (.int .u32 (.lit 27263123)), (.int .u32 (.lit 0)), (.int .u32 (.lit 0)), (.int .u32 (.lit 0)), .nilSlice, .nilSlice, (.int .u32 (.lit 0)), (.int .u32 (.lit 0)), (.bool (.lit false)), (.int .i64 (.lit 1)), (.int .i64 (.lit 2))]
def ce77 : List SV := [(.int .i64 (.lit 1)), (.int .u32 (.lit 0)), (.int .u32 (.lit 28311699)), (.int .u32 (.lit 0)), (.int .u32 (.lit 0)), (.int .u32 (.lit 0)), .nilSlice, .nilSlice, (.int .u32 (.lit 0)), (.int .u32 (.lit 0)), (.bool (.lit false)), (.int .i64 (.lit 1)), (.int .i64 (.lit 2))]
def ce78 : List SV := [(.int .i64 (.lit 1)), (.int .u32 (.lit 0)), (.int .u32 (.lit 29360275)), (.int .u32 (.lit 0)), (.int .u32 (.lit 0)), (.int .u32 (.lit 0)), .nilSlice, .nilSlice, (.int .u32 (.lit 0)), (.int .u32 (.lit 0)), (.bool (.lit false)), (.int .i64 (.lit 1)), (.int .i64 (.lit 2))]
def ce79 : List SV := [(.int .i64 (.lit 1)), (.int .u32 (.lit 0)), (.int .u32 (.lit 30408851)), (.int .u32 (.lit 0)), (.int .u32 (.lit 0)), (.int .u32 (.lit 0)), .nilSlice, .nilSlice, (.int .u32 (.lit 0)), (.int .u32 (.lit 0)), (.bool (.lit false)), (.int .i64 (.lit 1)), (.int .i64 (.lit 2))]
def ce80 : List SV := [(.int .i64 (.lit 1)), (.int .u32 (.lit 0)), (.int .u32 (.lit 31457427)), (.int .u32 (.lit 0)), (.int .u32 (.lit 0)), (.int .u32 (.lit 0)), .nilSlice, .nilSlice, (.int .u32 (.lit 0)), (.int .u32 (.lit 0)), (.bool (.lit false)), (.int .i64 (.lit 1)), (.int .i64 (.lit 2))]
def ce81 : List SV := [(.int .i64 (.lit 1)), (.int .u32 (.lit 12)), (.int .u32 (.lit 4261453027)), (.int .u32 (.lit 12)), (.int .u32 (.lit 0)), (.int .u32 (.lit 0)), .nilSlice, .nilSlice, (.int .u32 (.lit 0)), (.int .u32 (.lit 0)), (.bool (.lit false)), (.int .i64 (.lit 19)), (.int .i64 (.lit 20))]
def ce82 : List SV := [(.int .i64 (.lit 1)), (.int .u32 (.lit 4)), (.int .u32 tm0), (.int .u32 (.lit 4)), (.int .u32 (.lit 0)), (.int .u32 (.lit 0)), .nilSlice, .nilSlice, (.int .u32 (.lit 0)), (.int .u32 (.lit 0)), (.bool (.lit false)), (.int .i64 (.lit 21)), (.int .i64 (.lit 22))]
def ce83 : List SV := [(.int .i64 (.lit 1)), (.int .u32 (.lit 8)), (.int .u32 (.lit 4293951635)), (.int .u32 (.lit 8)), (.int .u32 (.lit 0)), (.int .u32 (.lit 0)), .nilSlice, .nilSlice, (.int .u32 (.lit 0)), (.int .u32 (.lit 0)), (.bool (.lit false)), (.int .i64 (.lit 23)), (.int .i64 (.lit 24))]
def ce84 : List SV := [(.int .i64 (.lit 1)), (.int .u32 (.lit 12)), (.int .u32 (.lit 4261453027)), (.int .u32 (.lit 12)), (.int .u32 (.lit 0)), (.int .u32 (.lit 0)), .nilSlice, .nilSlice, (.int .u32 (.lit 0)), (.int .u32 (.lit 0)), (.bool (.lit false)), (.int .i64 (.lit 25)), (.int .i64 (.lit 26))]
def ce85 : List SV := [(.int .i64 (.lit 1)), (.int .u32 (.lit 4)), (.int .u32 tm0), (.int .u32 (.lit 4)), (.int .u32 (.lit 0)), (.int .u32 (.lit 0)), .nilSlice, .nilSlice, (.int .u32 (.lit 0)), (.int .u32 (.lit 0)), (.bool (.lit false)), (.int .i64 (.lit 27)), (.int .i64 (.lit 28))]
def ce86 : List SV := [(.int .i64 (.lit 1)), (.int .u32 (.lit 8)), (.int .u32 (.lit 4293951635)), (.int .u32 (.lit 8)), (.int .u32 (.lit 0)), (.int .u32 (.lit 0)), .nilSlice, .nilSlice, (.int .u32 (.lit 0)), (.int .u32 (.lit 0)), (.bool (.lit false)), (.int .i64 (.lit 29)), (.int .i64 (.lit 30))]
def ce87 : List SV := [(.int .i64 (.lit 1)), (.int .u32 (.lit 12)), (.int .u32 (.lit 4261453027)), (.int .u32 (.lit 12)), (.int .u32 (.lit 0)), (.int .u32 (.lit 0)), .nilSlice, .nilSlice, (.int .u32 (.lit 0)), (.int .u32 (.lit 0)), (.bool (.lit false)), (.int .i64 (.lit 31)), (.int .i64 (.lit 32))]
def ce88 : List SV := [(.int .i64 (.lit 1)), (.int .u32 (.lit 4)), (.int .u32 tm0), (.int .u32 (.lit 4)), (.int .u32 (.lit 0)), (.int .u32 (.lit 0)), .nilSlice, .nilSlice, (.int .u32 (.lit 0)), (.int .u32 (.lit 0)), (.bool (.lit false)), (.int .i64 (.lit 33)), (.int .i64 (.lit 34))]
def ce89 : List SV := [(.int .i64 (.lit 1)), (.int .u32 (.lit 8)), (.int .u32 (.lit 4293951635)), (.int .u32 (.lit 8)), (.int .u32 (.lit 0)), (.int .u32 (.lit 0)), .nilSlice, .nilSlice, (.int .u32 (.lit 0)), (.int .u32 (.lit 0)), (.bool (.lit false)), (.int .i64 (.lit 35)), (.int .i64 (.lit 36))]
def ce90 : List SV := [(.int .i64 (.lit 1)), (.int .u32 (.lit 12)), (.int .u32 (.lit 4261453027)), (.int .u32 (.lit 12)), (.int .u32 (.lit 0)), (.int .u32 (.lit 0)), .nilSlice, .nilSlice, (.int .u32 (.lit 0)), (.int .u32 (.lit 0)), (.bool (.lit false)), (.int .i64 (.lit 37)), (.int .i64 (.lit 38))]
def ce91 : List SV := [(.int .i64 (.lit 1)), (.int .u32 (.lit 4)), (.int .u32 tm0), (.int .u32 (.lit 4)), (.int .u32 (.lit 0)), (.int .u32 (.lit 0)), .nilSlice, .nilSlice, (.int .u32 (.lit 0)), (.int .u32 (.lit 0)), (.bool (.lit false)), (.int .i64 (.lit 39)), (.int .i64 (.lit 40))]
def ce92 : List SV := [(.int .i64 (.lit 1)), (.int .u32 (.lit 8)), (.int .u32 (.lit 4293951635)), (.int .u32 (.lit 8)), (.int .u32 (.lit 0)), (.int .u32 (.lit 0)), .nilSlice, .nilSlice, (.int .u32 (.lit 0)), (.int .u32 (.lit 0)), (.bool (.lit false)), (.int .i64 (.lit 41)), (.int .i64 (.lit 42))]
def ce93 : List SV := [(.int .i64 (.lit 1)), (.int .u32 (.lit 12)), (.int .u32 (.lit 4261453027)), (.int .u32 (.lit 12)), (.int .u32 (.lit 0)), (.int .u32 (.lit 0)), .nilSlice, .nilSlice, (.int .u32 (.lit 0)), (.int .u32 (.lit 0)), (.bool (.lit false)), (.int .i64 (.lit 43)), (.int .i64 (.lit 44))]
def ce94 : List SV := [(.int .i64 (.lit 1)), (.int .u32 (.lit 4)), (.int .u32 tm0), (.int .u32 (.lit 4)), (.int .u32 (.lit 0)), (.int .u32 (.lit 0)), .nilSlice, .nilSlice, (.int .u32 (.lit 0)), (.int .u32 (.lit 0)), (.bool (.lit false)), (.int .i64 (.lit 45)), (.int .i64 (.lit 46))]
def ce95 : List SV := [(.int .i64 (.lit 1)), (.int .u32 (.lit 8)), (.int .u32 (.lit 4293951635)), (.int .u32 (.lit 8)), (.int .u32 (.lit 0)), (.int .u32 (.lit 0)), .nilSlice, .nilSlice, (.int .u32 (.lit 0)), (.int .u32 (.lit 0)), (.bool (.lit false)), (.int .i64 (.lit 47)), (.int .i64 (.lit 48))]
def ce96 : List SV := [(.int .i64 (.lit 1)), (.int .u32 (.lit 12)), (.int .u32 (.lit 4261453027)), (.int .u32 (.lit 12)), (.int .u32 (.lit 0)), (.int .u32 (.lit 0)), .nilSlice, .nilSlice, (.int .u32 (.lit 0)), (.int .u32 (.lit 0)), (.bool (.lit false)), (.int .i64 (.lit 49)), (.int .i64 (.lit 50))]
def ce97 : List SV := [(.int .i64 (.lit 1)), (.int .u32 (.lit 4)), (.int .u32 tm0), (.int .u32 (.lit 4)), (.int .u32 (.lit 0)), (.int .u32 (.lit 0)), .nilSlice, .nilSlice, (.int .u32 (.lit 0)), (.int .u32 (.lit 0)), (.bool (.lit false)), (.int .i64 (.lit 51)), (.int .i64 (.lit 52))]
def ce98 : List SV := [(.int .i64 (.lit 1)), (.int .u32 (.lit 8)), (.int .u32 (.lit 4293951635)), (.int .u32 (.lit 8)), (.int .u32 (.lit 0)), (.int .u32 (.lit 0)), .nilSlice, .nilSlice, (.int .u32 (.lit 0)), (.int .u32 (.lit 0)), (.bool (.lit false)), (.int .i64 (.lit 53)), (.int .i64 (.lit 54))]
def ce99 : List SV := [(.int .i64 (.lit 1)), (.int .u32 (.lit 12)), (.int .u32 (.lit 4261453027)), (.int .u32 (.lit 12)), (.int .u32 (.lit 0)), (.int .u32 (.lit 0)), .nilSlice, .nilSlice, (.int .u32 (.lit 0)), (.int .u32 (.lit 0)), (.bool (.lit false)), (.int .i64 (.lit 55)), (.int .i64 (.lit 56))]
def ce100 : List SV := [(.int .i64 (.lit 1)), (.int .u32 (.lit 4)), (.int .u32 tm0), (.int .u32 (.lit 4)), (.int .u32 (.lit 0)), (.int .u32 (.lit 0)), .nilSlice, .nilSlice, (.int .u32 (.lit 0)), (.int .u32 (.lit 0)), (.bool (.lit false)), (.int .i64 (.lit 57)), (.int .i64 (.lit 58))]
def ce101 : List SV := [(.int .i64 (.lit 1)), (.int .u32 (.lit 8)), (.int .u32 (.lit 4293951635)), (.int .u32 (.lit 8)), (.int .u32 (.lit 0)), (.int .u32 (.lit 0)), .nilSlice, .nilSlice, (.int .u32 (.lit 0)), (.int .u32 (.lit 0)), (.bool (.lit false)), (.int .i64 (.lit 59)), (.int .i64 (.lit 60))]
def ce102 : List SV := [(.int .i64 (.lit 1)), (.int .u32 (.lit 12)), (.int .u32 (.lit 4261453027)), (.int .u32 (.lit 12)), (.int .u32 (.lit 0)), (.int .u32 (.lit 0)), .nilSlice, .nilSlice, (.int .u32 (.lit 0)), (.int .u32 (.lit 0)), (.bool (.lit false)), (.int .i64 (.lit 61)), (.int .i64 (.lit 62))]
def ce103 : List SV := [(.int .i64 (.lit 1)), (.int .u32 (.lit 4)), (.int .u32 tm0), (.int .u32 (.lit 4)), (.int .u32 (.lit 0)), (.int .u32 (.lit 0)), .nilSlice, .nilSlice, (.int .u32 (.lit 0)), (.int .u32 (.lit 0)), (.bool (.lit false)), (.int .i64 (.lit 63)), (.int .i64 (.lit 64))]
def ce104 : List SV := [(.int .i64 (.lit 1)), (.int .u32 (.lit 8)), (.int .u32 (.lit 4293951635)), (.int .u32 (.lit 8)), (.int .u32 (.lit 0)), (.int .u32 (.lit 0)), .nilSlice, .nilSlice, (.int .u32 (.lit 0)), (.int .u32 (.lit 0)), (.bool (.lit false)), (.int .i64 (.lit 65)), (.int .i64 (.lit 66))]
def ce105 : List SV := [(.int .i64 (.lit 1)), (.int .u32 (.lit 12)), (.int .u32 (.lit 4261453027)), (.int .u32 (.lit 12)), (.int .u32 (.lit 0)), (.int .u32 (.lit 0)), .nilSlice, .nilSlice, (.int .u32 (.lit 0)), (.int .u32 (.lit 0)), (.bool (.lit false)), (.int .i64 (.lit 67)), (.int .i64 (.lit 68))]
def ce106 : List SV := [(.int .i64 (.lit 1)), (.int .u32 (.lit 4)), (.int .u32 tm0), (.int .u32 (.lit 4)), (.int .u32 (.lit 0)), (.int .u32 (.lit 0)), .nilSlice, .nilSlice, (.int .u32 (.lit 0)), (.int .u32 (.lit 0)), (.bool (.lit false)), (.int .i64 (.lit 69)), (.int .i64 (.lit 70))]
def ce107 : List SV := [(.int .i64 (.lit 1)), (.int .u32 (.lit 8)), (.int .u32 (.lit 4293951635)), (.int .u32 (.lit 8)), (.int .u32 (.lit 0)), (.int .u32 (.lit 0)), .nilSlice, .nilSlice, (.int .u32 (.lit 0)), (.int .u32 (.lit 0)), (.bool (.lit false)), (.int .i64 (.lit 71)), (.int .i64 (.lit 72))]
def ce108 : List SV := [(.int .i64 (.lit 1)), (.int .u32 (.lit 12)), (.int .u32 (.lit 4261453027)), (.int .u32 (.lit 12)), (.int .u32 (.lit 0)), (.int .u32 (.lit 0)), .nilSlice, .nilSlice, (.int .u32 (.lit 0)), (.int .u32 (.lit 0)), (.bool (.lit false)), (.int .i64 (.lit 73)), (.int .i64 (.lit 74))]
def ce109 : List SV := [(.int .i64 (.lit 1)), (.int .u32 (.lit 4)), (.int .u32 tm0), (.int .u32 (.lit 4)), (.int .u32 (.lit 0)), (.int .u32 (.lit 0)), .nilSlice, .nilSlice, (.int .u32 (.lit 0)), (.int .u32 (.lit 0)), (.bool (.lit false)), (.int .i64 (.lit 75)), (.int .i64 (.lit 76))]
def ce110 : List SV := [(.int .i64 (.lit 1)), (.int .u32 (.lit 8)), (.int .u32 (.lit 4293951635)), (.int .u32 (.lit 8)), (.int .u32 (.lit 0)), (.int .u32 (.lit 0)), .nilSlice, .nilSlice, (.int .u32 (.lit 0)), (.int .u32 (.lit 0)), (.bool (.lit false)), (.int .i64 (.lit 77)), (.int .i64 (.lit 78))]
def ce111 : List SV := [(.int .i64 (.lit 1)), (.int .u32 (.lit 12)), (.int .u32 (.lit 4261453027)), (.int .u32 (.lit 12)), (.int .u32 (.lit 0)), (.int .u32 (.lit 0)), .nilSlice, .nilSlice, (.int .u32 (.lit 0)), (.int .u32 (.lit 0)), (.bool (.lit false)), (.int .i64 (.lit 79)), (.int .i64 (.lit 80))]
def ce112 : List SV := [(.int .i64 (.lit 1)), (.int .u32 (.lit 4)), (.int .u32 tm0), (.int .u32 (.lit 4)), (.int .u32 (.lit 0)), (.int .u32 (.lit 0)), .nilSlice, .nilSlice, (.int .u32 (.lit 0)), (.int .u32 (.lit 0)), (.bool (.lit false)), (.int .i64 (.lit 81)), (.int .i64 (.lit 82))]
def ce113 : List SV := [(.int .i64 (.lit 1)), (.int .u32 (.lit 8)), (.int .u32 (.lit 4293951635)), (.int .u32 (.lit 8)), (.int .u32 (.lit 0)), (.int .u32 (.lit 0)), .nilSlice, .nilSlice, (.int .u32 (.lit 0)), (.int .u32 (.lit 0)), (.bool (.lit false)), (.int .i64 (.lit 83)), (.int .i64 (.lit 84))]
def ce114 : List SV := [(.int .i64 (.lit 1)), (.int .u32 (.lit 12)), (.int .u32 (.lit 4261453027)), (.int .u32 (.lit 12)), (.int .u32 (.lit 0)), (.int .u32 (.lit 0)), .nilSlice, .nilSlice, (.int .u32 (.lit 0)), (.int .u32 (.lit 0)), (.bool (.lit false)), (.int .i64 (.lit 85)), (.int .i64 (.lit 86))]
def ce115 : List SV := [(.int .i64 (.lit 1)), (.int .u32 (.lit 4)), (.int .u32 tm0), (.int .u32 (.lit 4)), (.int .u32 (.lit 0)), (.int .u32 (.lit 0)), .nilSlice, .nilSlice, (.int .u32 (.lit 0)), (.int .u32 (.lit 0)), (.bool (.lit false)), (.int .i64 (.lit 87)), (.int .i64 (.lit 88))]
def ce116 : List SV := [(.int .i64 (.lit 1)), (.int .u32 (.lit 8)), (.int .u32 (.lit 4293951635)), (.int .u32 (.lit 8)), (.int .u32 (.lit 0)), (.int .u32 (.lit 0)), .nilSlice, .nilSlice, (.int .u32 (.lit 0)), (.int .u32 (.lit 0)), (.bool (.lit false)), (.int .i64 (.lit 89)), (.int .i64 (.lit 90))]
def ce117 : List SV := [(.int .i64 (.lit 1)), (.int .u32 (.lit 12)), (.int .u32 (.lit 4261453027)), (.int .u32 (.lit 12)), (.int .u32 (.lit 0)), (.int .u32 (.lit 0)), .nilSlice, .nilSlice, (.int .u32 (.lit 0)), (.int .u32 (.lit 0)), (.bool (.lit false)), (.int .i64 (.lit 91)), (.int .i64 (.lit 92))]
def ce118 : List SV := [(.int .i64 (.lit 1)), (.int .u32 (.lit 4)), (.int .u32 tm0), (.int .u32 (.lit 4)), (.int .u32 (.lit 0)), (.int .u32 (.lit 0)), .nilSlice, .nilSlice, (.int .u32 (.lit 0)), (.int .u32 (.lit 0)), (.bool (.lit false)), (.int .i64 (.lit 93)), (.int .i64 (.lit 94))]
def ce119 : List SV := [(.int .i64 (.lit 1)), (.int .u32 (.lit 8)), (.int .u32 (.lit 4293951635)), (.int .u32 (.lit 8)), (.int .u32 (.lit 0)), (.int .u32 (.lit 0)), .nilSlice, .nilSlice, (.int .u32 (.lit 0)), (.int .u32 (.lit 0)), (.bool (.lit false)), (.int .i64 (.lit 95)), (.int .i64 (.lit 96))]
def ce120 : List SV := [(.int .i64 (.lit 1)), (.int .u32 (.lit 12)), (.int .u32 (.lit 4261453027)), (.int .u32 (.lit 12)), (.int .u32 (.lit 0)), (.int .u32 (.lit 0)), .nilSlice, .nilSlice, (.int .u32 (.lit 0)), (.int .u32 (.lit 0)), (.bool (.lit false)), (.int .i64 (.lit 97)), (.int .i64 (.lit 98))]
def ce121 : List SV := [(.int .i64 (.lit 1)), (.int .u32 (.lit 4)), (.int .u32 tm0), (.int .u32 (.lit 4)), (.int .u32 (.lit 0)), (.int .u32 (.lit 0)), .nilSlice, .nilSlice, (.int .u32 (.lit 0)), (.int .u32 (.lit 0)), (.bool (.lit false)), (.int .i64 (.lit 99)), (.int .i64 (.lit 100))]
def ce122 : List SV := [(.int .i64 (.lit 1)), (.int .u32 (.lit 8)), (.int .u32 (.lit 4293951635)), (.int .u32 (.lit 8)), (.int .u32 (.lit 0)), (.int .u32 (.lit 0)), .nilSlice, .nilSlice, (.int .u32 (.lit 0)), (.int .u32 (.lit 0)), (.bool (.lit false)), (.int .i64 (.lit 101)), (.int .i64 (.lit 102))]
def ce123 : List SV := [(.int .i64 (.lit 1)), (.int .u32 (.lit 12)), (.int .u32 (.lit 4261453027)), (.int .u32 (.lit 12)), (.int .u32 (.lit 0)), (.int .u32 (.lit 0)), .nilSlice, .nilSlice, (.int .u32 (.lit 0)), (.int .u32 (.lit 0)), (.bool (.lit false)), (.int .i64 (.lit 103)), (.int .i64 (.lit 104))]
def ce124 : List SV := [(.int .i64 (.lit 1)), (.int .u32 (.lit 4)), (.int .u32 tm0), (.int .u32 (.lit 4)), (.int .u32 (.lit 0)), (.int .u32 (.lit 0)), .nilSlice, .nilSlice, (.int .u32 (.lit 0)), (.int .u32 (.lit 0)), (.bool (.lit false)), (.int .i64 (.lit 105)), (.int .i64 (.lit 106))]
def ce125 : List SV := [(.int .i64 (.lit 1)), (.int .u32 (.lit 8)), (.int .u32 (.lit 4293951635)), (.int .u32 (.lit 8)), (.int .u32 (.lit 0)), (.int .u32 (.lit 0)), .nilSlice, .nilSlice, (.int .u32 (.lit 0)), (.int .u32 (.lit 0)), (.bool (.lit false)), (.int .i64 (.lit 107)), (.int .i64 (.lit 108))]
def ce126 : List SV := [(.int .i64 (.lit 1)), (.int .u32 (.lit 12)), (.int .u32 (.lit 4261453027)), (.int .u32 (.lit 12)), (.int .u32 (.lit 0)), (.int .u32 (.lit 0)), .nilSlice, .nilSlice, (.int .u32 (.lit 0)), (.int .u32 (.lit 0)), (.bool (.lit false)), (.int .i64 (.lit 109)), (.int .i64 (.lit 110))]
def ce127 : List SV := [(.int .i64 (.lit 1)), (.int .u32 (.lit 4)), (.int .u32 tm0), (.int .u32 (.lit 4)), (.int .u32 (.lit 0)), (.int .u32 (.lit 0)), .nilSlice, .nilSlice, (.int .u32 (.lit 0)), (.int .u32 (.lit 0)), (.bool (.lit false)), (.int .i64 (.lit 111)), (.int .i64 (.lit 112))]
def ce128 : List SV := [(.int .i64 (.lit 1)), (.int .u32 (.lit 8)), (.int .u32 (.lit 4293951635)), (.int .u32 (.lit 8)), (.int .u32 (.lit 0)), (.int .u32 (.lit 0)), .nilSlice, .nilSlice, (.int .u32 (.lit 0)), (.int .u32 (.lit 0)), (.bool (.lit false)), (.int .i64 (.lit 113)), (.int .i64 (.lit 114))]
def ce129 : List SV := [(.int .i64 (.lit 1)), (.int .u32 (.lit 12)), (.int .u32 (.lit 4261453027)), (.int .u32 (.lit 12)), (.int .u32 (.lit 0)), (.int .u32 (.lit 0)), .nilSlice, .nilSlice, (.int .u32 (.lit 0)), (.int .u32 (.lit 0)), (.bool (.lit false)), (.int .i64 (.lit 115)), (.int .i64 (.lit 116))]
def ce130 : List SV := [(.int .i64 (.lit 1)), (.int .u32 (.lit 4)), (.int .u32 tm0), (.int .u32 (.lit 4)), (.int .u32 (.lit 0)), (.int .u32 (.lit 0)), .nilSlice, .nilSlice, (.int .u32 (.lit 0)), (.int .u32 (.lit 0)), (.bool (.lit false)), (.int .i64 (.lit 117)), (.int .i64 (.lit 118))]
def ce131 : List SV := [(.int .i64 (.lit 1)), (.int .u32 (.lit 8)), (.int .u32 (.lit 4293951635)), (.int .u32 (.lit 8)), (.int .u32 (.lit 0)), (.int .u32 (.lit 0)), .nilSlice, .nilSlice, (.int .u32 (.lit 0)), (.int .u32 (.lit 0)), (.bool (.lit false)), (.int .i64 (.lit 119)), (.int .i64 (.lit 120))]
def ce132 : List SV := [(.int .i64 (.lit 1)), (.int .u32 (.lit 12)), (.int .u32 (.lit 4261453027)), (.int .u32 (.lit 12)), (.int .u32 (.lit 0)), (.int .u32 (.lit 0)), .nilSlice, .nilSlice, (.int .u32 (.lit 0)), (.int .u32 (.lit 0)), (.bool (.lit false)), (.int .i64 (.lit 121)), (.int .i64 (.lit 122))]
def ce133 : List SV := [(.int .i64 (.lit 1)), (.int .u32 (.lit 4)), (.int .u32 tm0), (.int .u32 (.lit 4)), (.int .u32 (.lit 0)), (.int .u32 (.lit 0)), .nilSlice, .nilSlice, (.int .u32 (.lit 0)), (.int .u32 (.lit 0)), (.bool (.lit false)), (.int .i64 (.lit 123)), (.int .i64 (.lit 124))]
def ce134 : List SV := [(.int .i64 (.lit 1)), (.int .u32 (.lit 8)), (.int .u32 (.lit 4293951635)), (.int .u32 (.lit 8)), (.int .u32 (.lit 0)), (.int .u32 (.lit 0)), .nilSlice, .nilSlice, (.int .u32 (.lit 0)), (.int .u32 (.lit 0)), (.bool (.lit false)), (.int .i64 (.lit 125)), (.int .i64 (.lit 126))]
def ce135 : List SV := [(.int .i64 (.lit 1)), (.int .u32 (.lit 12)), (.int .u32 (.lit 4261453027)), (.int .u32 (.lit 12)), (.int .u32 (.lit 0)), (.int .u32 (.lit 0)), .nilSlice, .nilSlice, (.int .u32 (.lit 0)), (.int .u32 (.lit 0)), (.bool (.lit false)), (.int .i64 (.lit 127)), (.int .i64 (.lit 128))]
def ce136 : List SV := [(.int .i64 (.lit 1)), (.int .u32 (.lit 4)), (.int .u32 tm0), (.int .u32 (.lit 4)), (.int .u32 (.lit 0)), (.int .u32 (.lit 0)), .nilSlice, .nilSlice, (.int .u32 (.lit 0)), (.int .u32 (.lit 0)), (.bool (.lit false)), (.int .i64 (.lit 129)), (.int .i64 (.lit 130))]
def ce137 : List SV := [(.int .i64 (.lit 1)), (.int .u32 (.lit 8)), (.int .u32 (.lit 4293951635)), (.int .u32 (.lit 8)), (.int .u32 (.lit 0)), (.int .u32 (.lit 0)), .nilSlice, .nilSlice, (.int .u32 (.lit 0)), (.int .u32 (.lit 0)), (.bool (.lit false)), (.int .i64 (.lit 131)), (.int .i64 (.lit 132))]
def ce138 : List SV := [(.int .i64 (.lit 1)), (.int .u32 (.lit 12)), (.int .u32 (.lit 4261453027)), (.int .u32 (.lit 12)), (.int .u32 (.lit 0)), (.int .u32 (.lit 0)), .nilSlice, .nilSlice, (.int .u32 (.lit 0)), (.int .u32 (.lit 0)), (.bool (.lit false)), (.int .i64 (.lit 133)), (.int .i64 (.lit 134))]
def ce139 : List SV := [(.int .i64 (.lit 1)), (.int .u32 (.lit 4)), (.int .u32 tm0), (.int .u32 (.lit 4)), (.int .u32 (.lit 0)), (.int .u32 (.lit 0)), .nilSlice, .nilSlice, (.int .u32 (.lit 0)), (.int .u32 (.lit 0)), (.bool (.lit false)), (.int .i64 (.lit 135)), (.int .i64 (.lit 136))]
def ce140 : List SV := [(.int .i64 (.lit 1)), (.int .u32 (.lit 8)), (.int .u32 (.lit 4293951635)), (.int .u32 (.lit 8)), (.int .u32 (.lit 0)), (.int .u32 (.lit 0)), .nilSlice, .nilSlice, (.int .u32 (.lit 0)), (.int .u32 (.lit 0)), (.bool (.lit false)), (.int .i64 (.lit 137)), (.int .i64 (.lit 138))]
def ce141 : List SV := [(.int .i64 (.lit 1)), (.int .u32 (.lit 12)), (.int .u32 (.lit 4261453027)), (.int .u32 (.lit 12)), (.int .u32 (.lit 0)), (.int .u32 (.lit 0)), .nilSlice, .nilSlice, (.int .u32 (.lit 0)), (.int .u32 (.lit 0)), (.bool (.lit false)), (.int .i64 (.lit 139)), (.int .i64 (.lit 140))]
def ce142 : List SV := [(.int .i64 (.lit 1)), (.int .u32 (.lit 4)), (.int .u32 tm0), (.int .u32 (.lit 4)), (.int .u32 (.lit 0)), (.int .u32 (.lit 0)), .nilSlice, .nilSlice, (.int .u32 (.lit 0)), (.int .u32 (.lit 0)), (.bool (.lit false)), (.int .i64 (.lit 141)), (.int .i64 (.lit 142))]
def ce143 : List SV := [(.int .i64 (.lit 1)), (.int .u32 (.lit 8)), (.int .u32 (.lit 4293951635)), (.int .u32 (.lit 8)), (.int .u32 (.lit 0)), (.int .u32 (.lit 0)), .nilSlice, .nilSlice, (.int .u32 (.lit 0)), (.int .u32 (.lit 0)), (.bool (.lit false)), (.int .i64 (.lit 143)), (.int .i64 (.lit 144))]
def ce144 : List SV := [(.int .i64 (.lit 1)), (.int .u32 (.lit 12)), (.int .u32 (.lit 4261453027)), (.int .u32 (.lit 12)), (.int .u32 (.lit 0)), (.int .u32 (.lit 0)), .nilSlice, .nilSlice, (.int .u32 (.lit 0)), (.int .u32 (.lit 0)), (.bool (.lit false)), (.int .i64 (.lit 145)), (.int .i64 (.lit 146))]
def ce145 : List SV := [(.int .i64 (.lit 1)), (.int .u32 (.lit 4)), (.int .u32 tm0), (.int .u32 (.lit 4)), (.int .u32 (.lit 0)), (.int .u32 (.lit 0)), .nilSlice, .nilSlice, (.int .u32 (.lit 0)), (.int .u32 (.lit 0)), (.bool (.lit false)), (.int .i64 (.lit 147)), (.int .i64 (.lit 148))]
def ce146 : List SV := [(.int .i64 (.lit 1)), (.int .u32 (.lit 8)), (.int .u32 (.lit 4293951635)), (.int .u32 (.lit 8)), (.int .u32 (.lit 0)), (.int .u32 (.lit 0)), .nilSlice, .nilSlice, (.int .u32 (.lit 0)), (.int .u32 (.lit 0)), (.bool (.lit false)), (.int .i64 (.lit 149)), (.int .i64 (.lit 150))]
def ce147 : List SV := [(.int .i64 (.lit 1)), (.int .u32 (.lit 12)), (.int .u32 (.lit 4261453027)), (.int .u32 (.lit 12)), (.int .u32 (.lit 0)), (.int .u32 (.lit 0)), .nilSlice, .nilSlice, (.int .u32 (.lit 0)), (.int .u32 (.lit 0)), (.bool (.lit false)), (.int .i64 (.lit 151)), (.int .i64 (.lit 152))]
def ce148 : List SV := [(.int .i64 (.lit 1)), (.int .u32 (.lit 4)), (.int .u32 tm0), (.int .u32 (.lit 4)), (.int .u32 (.lit 0)), (.int .u32 (.lit 0)), .nilSlice, .nilSlice, (.int .u32 (.lit 0)), (.int .u32 (.lit 0)), (.bool (.lit false)), (.int .i64 (.lit 153)), (.int .i64 (.lit 154))]
def ce149 : List SV := [(.int .i64 (.lit 1)), (.int .u32 (.lit 8)), (.int .u32 (.lit 4293951635)), (.int .u32 (.lit 8)), (.int .u32 (.lit 0)), (.int .u32 (.lit 0)), .nilSlice, .nilSlice, (.int .u32 (.lit 0)), (.int .u32 (.lit 0)), (.bool (.lit false)), (.int .i64 (.lit 155)), (.int .i64 (.lit 156))]
def ce150 : List SV := [(.int .i64 (.lit 1)), (.int .u32 (.lit 12)), (.int .u32 (.lit 4261453027)), (.int .u32 (.lit 12)), (.int .u32 (.lit 0)), (.int .u32 (.lit 0)), .nilSlice, .nilSlice, (.int .u32 (.lit 0)), (.int .u32 (.lit 0)), (.bool (.lit false)), (.int .i64 (.lit 157)), (.int .i64 (.lit 158))]
def ce151 : List SV := [(.int .i64 (.lit 1)), (.int .u32 (.lit 4)), (.int .u32 tm0), (.int .u32 (.lit 4)), (.int .u32 (.lit 0)), (.int .u32 (.lit 0)), .nilSlice, .nilSlice, (.int .u32 (.lit 0)), (.int .u32 (.lit 0)), (.bool (.lit false)), (.int .i64 (.lit 159)), (.int .i64 (.lit 160))]
def ce152 : List SV := [(.int .i64 (.lit 1)), (.int .u32 (.lit 8)), (.int .u32 (.lit 4293951635)), (.int .u32 (.lit 8)), (.int .u32 (.lit 0)), (.int .u32 (.lit 0)), .nilSlice, .nilSlice, (.int .u32 (.lit 0)), (.int .u32 (.lit 0)), (.bool (.lit false)), (.int .i64 (.lit 161)), (.int .i64 (.lit 162))]
def cex0 : List SV := ce0 ++ (ce1 ++ (ce1 ++ (ce1)))
def cex1 : List SV := ce1 ++ (ce1 ++ (ce1 ++ (ce1)))
def cex2 : List SV := ce3 ++ (ce4 ++ (ce4 ++ (ce5)))
def cex3 : List SV := ce8 ++ (ce0 ++ (ce1 ++ (ce1)))
def cex4 : List SV := ce11 ++ (ce0 ++ (ce1 ++ (ce1)))
def cex5 : List SV := ce13 ++ (ce0 ++ (ce1 ++ (ce1)))
def cex6 : List SV := ce15 ++ (ce0 ++ (ce1 ++ (ce1)))
def cex7 : List SV := ce17 ++ (ce0 ++ (ce1 ++ (ce1)))
def cex8 : List SV := ce18 ++ (ce0 ++ (ce1 ++ (ce1)))
def cex9 : List SV := ce20 ++ (ce0 ++ (ce1 ++ (ce1)))
def cex10 : List SV := ce22 ++ (ce0 ++ (ce1 ++ (ce1)))
def cex11 : List SV := ce24 ++ (ce0 ++ (ce1 ++ (ce1)))
def cex12 : List SV := ce26 ++ (ce0 ++ (ce1 ++ (ce1)))
def cex13 : List SV := ce9 ++ (ce9 ++ (ce9 ++ (ce27)))
def cex14 : List SV := ce28 ++ (ce0 ++ (ce1 ++ (ce1)))
def cex15 : List SV := ce9 ++ (ce9 ++ (ce9 ++ (ce29)))
def cex16 : List SV := ce30 ++ (ce0 ++ (ce1 ++ (ce1)))
def cex17 : List SV := ce9 ++ (ce9 ++ (ce9 ++ (ce6)))
def cex18 : List SV := ce31 ++ (ce0 ++ (ce1 ++ (ce1)))
def cex19 : List SV := ce9 ++ (ce9 ++ (ce9 ++ (ce7)))
def cex20 : List SV := ce32 ++ (ce0 ++ (ce1 ++ (ce1)))
def cex21 : List SV := ce9 ++ (ce9 ++ (ce9 ++ (ce9)))
def cex22 : List SV := ce33 ++ (ce0 ++ (ce1 ++ (ce1)))
def cex23 : List SV := ce34 ++ (ce0 ++ (ce1 ++ (ce1)))
def cex24 : List SV := ce35 ++ (ce0 ++ (ce1 ++ (ce1)))
def cex25 : List SV := ce36 ++ (ce0 ++ (ce1 ++ (ce1)))
def cex26 : List SV := ce37 ++ (ce0 ++ (ce1 ++ (ce1)))
def cex27 : List SV := ce38 ++ (ce0 ++ (ce1 ++ (ce1)))
def cex28 : List SV := ce39 ++ (ce0 ++ (ce1 ++ (ce1)))
def cex29 : List SV := ce40 ++ (ce0 ++ (ce1 ++ (ce1)))
def cex30 : List SV := ce41 ++ (ce0 ++ (ce1 ++ (ce1)))
def cex31 : List SV := ce42 ++ (ce0 ++ (ce1 ++ (ce1)))
def cex32 : List SV := ce43 ++ (ce0 ++ (ce1 ++ (ce1)))
def cex33 : List SV := ce44 ++ (ce0 ++ (ce1 ++ (ce1)))
def cex34 : List SV := ce45 ++ (ce0 ++ (ce1 ++ (ce1)))
def cex35 : List SV := ce9 ++ (ce9 ++ (ce9 ++ (ce10)))
def cex36 : List SV := ce46 ++ (ce0 ++ (ce1 ++ (ce1)))
def cex37 : List SV := ce47 ++ (ce48 ++ (ce49 ++ (ce50)))
def cex38 : List SV := ce51 ++ (ce52 ++ (ce53 ++ (ce54)))
def cex39 : List SV := ce56 ++ (ce47 ++ (ce48 ++ (ce49)))
def cex40 : List SV := ce50 ++ (ce51 ++ (ce52 ++ (ce53)))
def cex41 : List SV := ce57 ++ (ce47 ++ (ce48 ++ (ce49)))
def cex42 : List SV := ce58 ++ (ce47 ++ (ce48 ++ (ce49)))
def cex43 : List SV := ce59 ++ (ce47 ++ (ce48 ++ (ce49)))
def cex44 : List SV := ce60 ++ (ce47 ++ (ce48 ++ (ce49)))
def cex45 : List SV := ce61 ++ (ce47 ++ (ce48 ++ (ce49)))
def cex46 : List SV := ce62 ++ (ce47 ++ (ce48 ++ (ce49)))
def cex47 : List SV := ce63 ++ (ce47 ++ (ce48 ++ (ce49)))
def cex48 : List SV := ce64 ++ (ce47 ++ (ce48 ++ (ce49)))
def cex49 : List SV := ce65 ++ (ce47 ++ (ce48 ++ (ce49)))
def cex50 : List SV := ce66 ++ (ce47 ++ (ce48 ++ (ce49)))
def cex51 : List SV := ce67 ++ (ce47 ++ (ce48 ++ (ce49)))
def cex52 : List SV := ce68 ++ (ce47 ++ (ce48 ++ (ce49)))
def cex53 : List SV := ce69 ++ (ce47 ++ (ce48 ++ (ce49)))
def cex54 : List SV := ce70 ++ (ce47 ++ (ce48 ++ (ce49)))
def cex55 : List SV := ce71 ++ (ce47 ++ (ce48 ++ (ce49)))
def cex56 : List SV := ce72 ++ (ce47 ++ (ce48 ++ (ce49)))
def cex57 : List SV := ce73 ++ (ce47 ++ (ce48 ++ (ce49)))
def cex58 : List SV := ce74 ++ (ce47 ++ (ce48 ++ (ce49)))
def cex59 : List SV := ce75 ++ (ce47 ++ (ce48 ++ (ce49)))
def cex60 : List SV := ce76 ++ (ce47 ++ (ce48 ++ (ce49)))
def cex61 : List SV := ce77 ++ (ce47 ++ (ce48 ++ (ce49)))
def cex62 : List SV := ce78 ++ (ce47 ++ (ce48 ++ (ce49)))
def cex63 : List SV := ce79 ++ (ce47 ++ (ce48 ++ (ce49)))
def cex64 : List SV := ce80 ++ (ce47 ++ (ce48 ++ (ce49)))
def cex65 : List SV := ce54 ++ (ce81 ++ (ce82 ++ (ce83)))
def cex66 : List SV := ce84 ++ (ce85 ++ (ce86 ++ (ce87)))
def cex67 : List SV := ce88 ++ (ce89 ++ (ce90 ++ (ce91)))
def cex68 : List SV := ce92 ++ (ce93 ++ (ce94 ++ (ce95)))
def cex69 : List SV := ce96 ++ (ce97 ++ (ce98 ++ (ce99)))
def cex70 : List SV := ce100 ++ (ce101 ++ (ce102 ++ (ce103)))
def cex71 : List SV := ce104 ++ (ce105 ++ (ce106 ++ (ce107)))
def cex72 : List SV := ce108 ++ (ce109 ++ (ce110 ++ (ce111)))
def cex73 : List SV := ce112 ++ (ce113 ++ (ce114 ++ (ce115)))
def cex74 : List SV := ce116 ++ (ce117 ++ (ce118 ++ (ce119)))
def cex75 : List SV := ce120 ++ (ce121 ++ (ce122 ++ (ce123)))
def cex76 : List SV := ce124 ++ (ce125 ++ (ce126 ++ (ce127)))
def cex77 : List SV := ce128 ++ (ce129 ++ (ce130 ++ (ce131)))
def cex78 : List SV := ce132 ++ (ce133 ++ (ce134 ++ (ce135)))
def cex79 : List SV := ce136 ++ (ce137 ++ (ce138 ++ (ce139)))
def cex80 : List SV := ce140 ++ (ce141 ++ (ce142 ++ (ce143)))
def cex81 : List SV := ce144 ++ (ce145 ++ (ce146 ++ (ce147)))
def cex82 : List SV := ce148 ++ (ce149 ++ (ce150 ++ (ce151)))
def N1_0 : NT := ⟨0, [86], ⟨List.append ([(.int .i64 (.cv .i64 (.var 0))), (.int .u32 (.cv .u32 (.var 1))), .lost, .lost, .lost, (bo' true)]) (List.replicate 80 .lost),
 objsFrom 198 0 doorL ++ [],
 []⟩⟩
theorem ok1_0 : N1_0.ok = true := by kernel_rfl
def N2_0 : NT := ⟨1, [86], ⟨List.append ([(i6' 1), (.int .u32 tm13), .lost, .lost, .lost, (bo' true)]) (List.replicate 80 .lost),
 objsFrom 198 0 doorL ++ [],
 []⟩⟩
theorem ok2_0 : N2_0.ok = true := by kernel_rfl
def N2_1 : NT := ⟨1, [86], ⟨List.append ([(i6' 2), (.int .u32 tm13), .lost, .lost, .lost, (bo' true)]) (List.replicate 80 .lost),
 objsFrom 198 0 doorL ++ [],
 []⟩⟩
theorem ok2_1 : N2_1.ok = true := by kernel_rfl
def N2_2 : NT := ⟨1, [86], ⟨List.append ([(i6' 3), (.int .u32 tm13), .lost, .lost, .lost, (bo' true)]) (List.replicate 80 .lost),
 objsFrom 198 0 doorL ++ [],
 []⟩⟩
theorem ok2_2 : N2_2.ok = true := by kernel_rfl
def N2_3 : NT := ⟨1, [86], ⟨List.append ([(i6' 4), (.int .u32 tm13), .lost, .lost, .lost, (bo' true)]) (List.replicate 80 .lost),
 objsFrom 198 0 doorL ++ [],
 []⟩⟩
theorem ok2_3 : N2_3.ok = true := by kernel_rfl
def N2_4 : NT := ⟨1, [86], ⟨List.append ([(i6' 5), (.int .u32 tm13), .lost, .lost, .lost, (bo' true)]) (List.replicate 80 .lost),
 objsFrom 198 0 doorL ++ [],
 []⟩⟩
theorem ok2_4 : N2_4.ok = true := by kernel_rfl
def N2_5 : NT := ⟨1, [86], ⟨List.append ([(i6' 6), (.int .u32 tm13), .lost, .lost, .lost, (bo' true)]) (List.replicate 80 .lost),
 objsFrom 198 0 doorL ++ [],
 []⟩⟩
theorem ok2_5 : N2_5.ok = true := by kernel_rfl
def N2_6 : NT := ⟨1, [86], ⟨List.append ([(i6' 7), (.int .u32 tm13), .lost, .lost, .lost, (bo' true)]) (List.replicate 80 .lost),
 objsFrom 198 0 doorL ++ [],
 []⟩⟩
theorem ok2_6 : N2_6.ok = true := by kernel_rfl
def N2_7 : NT := ⟨1, [86], ⟨List.append ([(i6' 8), (.int .u32 tm13), .lost, .lost, .lost, (bo' true)]) (List.replicate 80 .lost),
 objsFrom 198 0 doorL ++ [],
 []⟩⟩
theorem ok2_7 : N2_7.ok = true := by kernel_rfl
def N2_8 : NT := ⟨1, [86], ⟨List.append ([(i6' 9), (.int .u32 tm13), .lost, .lost, .lost, (bo' true)]) (List.replicate 80 .lost),
 objsFrom 198 0 doorL ++ [],
 []⟩⟩
theorem ok2_8 : N2_8.ok = true := by kernel_rfl
def N2_9 : NT := ⟨1, [86], ⟨List.append ([(i6' 10), (.int .u32 tm13), .lost, .lost, .lost, (bo' true)]) (List.replicate 80 .lost),
 objsFrom 198 0 doorL ++ [],
 []⟩⟩
theorem ok2_9 : N2_9.ok = true := by kernel_rfl
def N2_10 : NT := ⟨1, [86], ⟨List.append ([(i6' 11), (.int .u32 tm13), .lost, .lost, .lost, (bo' true)]) (List.replicate 80 .lost),
 objsFrom 198 0 doorL ++ [],
 []⟩⟩
theorem ok2_10 : N2_10.ok = true := by kernel_rfl
def N2_11 : NT := ⟨1, [86], ⟨List.append ([(i6' 12), (.int .u32 tm13), .lost, .lost, .lost, (bo' true)]) (List.replicate 80 .lost),
 objsFrom 198 0 doorL ++ [],
 []⟩⟩
theorem ok2_11 : N2_11.ok = true := by kernel_rfl
def N2_12 : NT := ⟨1, [86], ⟨List.append ([(i6' 13), (.int .u32 tm13), .lost, .lost, .lost, (bo' true)]) (List.replicate 80 .lost),
 objsFrom 198 0 doorL ++ [],
 []⟩⟩
theorem ok2_12 : N2_12.ok = true := by kernel_rfl
def N2_13 : NT := ⟨1, [86], ⟨List.append ([(i6' 14), (.int .u32 tm13), .lost, .lost, .lost, (bo' true)]) (List.replicate 80 .lost),
 objsFrom 198 0 doorL ++ [],
 []⟩⟩
theorem ok2_13 : N2_13.ok = true := by kernel_rfl
def N2_14 : NT := ⟨1, [86], ⟨List.append ([(i6' 15), (.int .u32 tm13), .lost, .lost, .lost, (bo' true)]) (List.replicate 80 .lost),
 objsFrom 198 0 doorL ++ [],
 []⟩⟩
theorem ok2_14 : N2_14.ok = true := by kernel_rfl
def N2_15 : NT := ⟨1, [86], ⟨List.append ([(i6' 16), (.int .u32 tm13), .lost, .lost, .lost, (bo' true)]) (List.replicate 80 .lost),
 objsFrom 198 0 doorL ++ [],
 []⟩⟩
theorem ok2_15 : N2_15.ok = true := by kernel_rfl
def N2_16 : NT := ⟨1, [86], ⟨List.append ([(i6' 17), (.int .u32 tm13), .lost, .lost, .lost, (bo' true)]) (List.replicate 80 .lost),
 objsFrom 198 0 doorL ++ [],
 []⟩⟩
theorem ok2_16 : N2_16.ok = true := by kernel_rfl
def N2_17 : NT := ⟨1, [86], ⟨List.append ([(i6' 18), (.int .u32 tm13), .lost, .lost, .lost, (bo' true)]) (List.replicate 80 .lost),
 objsFrom 198 0 doorL ++ [],
 []⟩⟩
theorem ok2_17 : N2_17.ok = true := by kernel_rfl
def N2_18 : NT := ⟨1, [86], ⟨List.append ([(i6' 19), (.int .u32 tm13), .lost, .lost, .lost, (bo' true)]) (List.replicate 80 .lost),
 objsFrom 198 0 doorL ++ [],
 []⟩⟩
theorem ok2_18 : N2_18.ok = true := by kernel_rfl
def N2_19 : NT := ⟨1, [86], ⟨List.append ([(i6' 20), (.int .u32 tm13), .lost, .lost, .lost, (bo' true)]) (List.replicate 80 .lost),
 objsFrom 198 0 doorL ++ [],
 []⟩⟩
theorem ok2_19 : N2_19.ok = true := by kernel_rfl
def N2_20 : NT := ⟨1, [86], ⟨List.append ([(i6' 21), (.int .u32 tm13), .lost, .lost, .lost, (bo' true)]) (List.replicate 80 .lost),
 objsFrom 198 0 doorL ++ [],
 []⟩⟩
theorem ok2_20 : N2_20.ok = true := by kernel_rfl
def N2_21 : NT := ⟨1, [86], ⟨List.append ([(i6' 22), (.int .u32 tm13), .lost, .lost, .lost, (bo' true)]) (List.replicate 80 .lost),
 objsFrom 198 0 doorL ++ [],
 []⟩⟩
theorem ok2_21 : N2_21.ok = true := by kernel_rfl
def N2_22 : NT := ⟨1, [86], ⟨List.append ([(i6' 23), (.int .u32 tm13), .lost, .lost, .lost, (bo' true)]) (List.replicate 80 .lost),
 objsFrom 198 0 doorL ++ [],
 []⟩⟩
theorem ok2_22 : N2_22.ok = true := by kernel_rfl
def N2_23 : NT := ⟨1, [86], ⟨List.append ([(i6' 24), (.int .u32 tm13), .lost, .lost, .lost, (bo' true)]) (List.replicate 80 .lost),
 objsFrom 198 0 doorL ++ [],
 []⟩⟩
theorem ok2_23 : N2_23.ok = true := by kernel_rfl
def N2_24 : NT := ⟨1, [86], ⟨List.append ([(i6' 25), (.int .u32 tm13), .lost, .lost, .lost, (bo' true)]) (List.replicate 80 .lost),
 objsFrom 198 0 doorL ++ [],
 []⟩⟩
theorem ok2_24 : N2_24.ok = true := by kernel_rfl
def N2_25 : NT := ⟨1, [86], ⟨List.append ([(i6' 26), (.int .u32 tm13), .lost, .lost, .lost, (bo' true)]) (List.replicate 80 .lost),
 objsFrom 198 0 doorL ++ [],
 []⟩⟩
theorem ok2_25 : N2_25.ok = true := by kernel_rfl
def N2_26 : NT := ⟨1, [86], ⟨List.append ([(i6' 27), (.int .u32 tm13), .lost, .lost, .lost, (bo' true)]) (List.replicate 80 .lost),
 objsFrom 198 0 doorL ++ [],
 []⟩⟩
theorem ok2_26 : N2_26.ok = true := by kernel_rfl
def N2_27 : NT := ⟨1, [86], ⟨List.append ([(i6' 28), (.int .u32 tm13), .lost, .lost, .lost, (bo' true)]) (List.replicate 80 .lost),
 objsFrom 198 0 doorL ++ [],
 []⟩⟩
theorem ok2_27 : N2_27.ok = true := by kernel_rfl
def N2_28 : NT := ⟨1, [86], ⟨List.append ([(i6' 29), (.int .u32 tm13), .lost, .lost, .lost, (bo' true)]) (List.replicate 80 .lost),
 objsFrom 198 0 doorL ++ [],
 []⟩⟩
theorem ok2_28 : N2_28.ok = true := by kernel_rfl
def N2_29 : NT := ⟨1, [86], ⟨List.append ([(i6' 30), (.int .u32 tm13), .lost, .lost, .lost, (bo' true)]) (List.replicate 80 .lost),
 objsFrom 198 0 doorL ++ [],
 []⟩⟩
theorem ok2_29 : N2_29.ok = true := by kernel_rfl
def N3_0 : NT := ⟨2, [86, 29], ⟨List.append ([(i6' 1), (.int .u32 tm12), .lost, .lost, .lost, (bo' true), .lost, (.ptr 6 0)]) (List.append (List.replicate 78 .lost) (List.append ([(.ptr 6 0), .lost, .lost, .lost, .lost, .nilSlice, .lost, .lost, .lost, .lost, (.slice 7 0 5 5 1), (i6' 5), (i6' 0)]) (List.replicate 16 .lost))),
 objsFrom 198 0 doorL ++ [ob0, (.cells [(i6' 0), (i6' 0), (i6' 0), (i6' 0), (i6' 0)] false), (.cells [(.ptr 10 0)] false), (.cells [(.slice 11 0 128 128 1)] false), ob1, (.cells ([(.int .u8 (.lit 147)), (.int .u8 (.lit 0)), (.int .u8 (.lit 16)), (.int .u8 (.lit 0)), (.int .u8 (.lit 147)), (.int .u8 (.lit 129)), (.int .u8 tm1), (.int .u8 tm11), (.int .u8 (.lit 147)), (.int .u8 (.lit 128)), (.int .u8 (.lit 240)), (.int .u8 (.lit 255)), (.int .u8 (.lit 227))] ++ (cex0 ++ (cex1 ++ (ce2)))) false), (.cells cex2 false)],
 []⟩⟩
theorem ok3_0 : N3_0.ok = true := by kernel_rfl
def N3_1 : NT := ⟨2, [86, 29], ⟨List.append ([(i6' 2), (.int .u32 tm12), .lost, .lost, .lost, (bo' true), .lost, (.ptr 6 0)]) (List.append (List.replicate 78 .lost) (List.append ([(.ptr 6 0), .lost, .lost, .lost, .lost, .nilSlice, .lost, .lost, .lost, .lost, (.slice 7 0 8 8 1), (i6' 8), (i6' 0)]) (List.replicate 16 .lost))),
 objsFrom 198 0 doorL ++ [ob0, (.cells ce6 false), (.cells [(.ptr 10 0)] false), (.cells [(.slice 11 0 128 128 1)] false), ob1, (.cells ([(.int .u8 (.lit 147)), (.int .u8 (.lit 0)), (.int .u8 (.lit 32)), (.int .u8 (.lit 0)), (.int .u8 (.lit 147)), (.int .u8 (.lit 129)), (.int .u8 tm1), (.int .u8 tm11), (.int .u8 (.lit 147)), (.int .u8 (.lit 128)), (.int .u8 (.lit 240)), (.int .u8 (.lit 255)), (.int .u8 (.lit 227))] ++ (cex0 ++ (cex1 ++ (ce2)))) false), (.cells cex2 false)],
 []⟩⟩
theorem ok3_1 : N3_1.ok = true := by kernel_rfl
def N3_2 : NT := ⟨2, [86, 29], ⟨List.append ([(i6' 3), (.int .u32 tm12), .lost, .lost, .lost, (bo' true), .lost, (.ptr 6 0)]) (List.append (List.replicate 78 .lost) (List.append ([(.ptr 6 0), .lost, .lost, .lost, .lost, .nilSlice, .lost, .lost, .lost, .lost, (.slice 7 0 11 11 1), (i6' 11), (i6' 0)]) (List.replicate 16 .lost))),
 objsFrom 198 0 doorL ++ [ob0, (.cells ce7 false), (.cells [(.ptr 10 0)] false), (.cells [(.slice 11 0 128 128 1)] false), ob1, (.cells (cex3 ++ (cex1 ++ (ce1 ++ (ce2)))) false), (.cells cex2 false)],
 []⟩⟩
theorem ok3_2 : N3_2.ok = true := by kernel_rfl
def N3_3 : NT := ⟨2, [86, 29], ⟨List.append ([(i6' 4), (.int .u32 tm12), .lost, .lost, .lost, (bo' true), .lost, (.ptr 6 0)]) (List.append (List.replicate 78 .lost) (List.append ([(.ptr 6 0), .lost, .lost, .lost, .lost, .nilSlice, .lost, .lost, .lost, .lost, (.slice 7 0 14 14 1), (i6' 14), (i6' 0)]) (List.replicate 16 .lost))),
 objsFrom 198 0 doorL ++ [ob0, (.cells (ce9 ++ (ce10)) false), (.cells [(.ptr 10 0)] false), (.cells [(.slice 11 0 128 128 1)] false), ob1, (.cells (cex4 ++ (cex1 ++ (ce1 ++ (ce2)))) false), (.cells cex2 false)],
 []⟩⟩
theorem ok3_3 : N3_3.ok = true := by kernel_rfl
def N3_4 : NT := ⟨2, [86, 29], ⟨List.append ([(i6' 5), (.int .u32 tm12), .lost, .lost, .lost, (bo' true), .lost, (.ptr 6 0)]) (List.append (List.replicate 78 .lost) (List.append ([(.ptr 6 0), .lost, .lost, .lost, .lost, .nilSlice, .lost, .lost, .lost, .lost, (.slice 7 0 17 17 1), (i6' 17), (i6' 0)]) (List.replicate 16 .lost))),
 objsFrom 198 0 doorL ++ [ob0, (.cells (ce9 ++ (ce12)) false), (.cells [(.ptr 10 0)] false), (.cells [(.slice 11 0 128 128 1)] false), ob1, (.cells (cex5 ++ (cex1 ++ (ce1 ++ (ce2)))) false), (.cells cex2 false)],
 []⟩⟩
theorem ok3_4 : N3_4.ok = true := by kernel_rfl
def N3_5 : NT := ⟨2, [86, 29], ⟨List.append ([(i6' 6), (.int .u32 tm12), .lost, .lost, .lost, (bo' true), .lost, (.ptr 6 0)]) (List.append (List.replicate 78 .lost) (List.append ([(.ptr 6 0), .lost, .lost, .lost, .lost, .nilSlice, .lost, .lost, .lost, .lost, (.slice 7 0 20 20 1), (i6' 20), (i6' 0)]) (List.replicate 16 .lost))),
 objsFrom 198 0 doorL ++ [ob0, (.cells (ce9 ++ (ce14)) false), (.cells [(.ptr 10 0)] false), (.cells [(.slice 11 0 128 128 1)] false), ob1, (.cells (cex6 ++ (cex1 ++ (ce1 ++ (ce2)))) false), (.cells cex2 false)],
 []⟩⟩
theorem ok3_5 : N3_5.ok = true := by kernel_rfl
def N3_6 : NT := ⟨2, [86, 29], ⟨List.append ([(i6' 7), (.int .u32 tm12), .lost, .lost, .lost, (bo' true), .lost, (.ptr 6 0)]) (List.append (List.replicate 78 .lost) (List.append ([(.ptr 6 0), .lost, .lost, .lost, .lost, .nilSlice, .lost, .lost, .lost, .lost, (.slice 7 0 23 23 1), (i6' 23), (i6' 0)]) (List.replicate 16 .lost))),
 objsFrom 198 0 doorL ++ [ob0, (.cells (ce9 ++ (ce16)) false), (.cells [(.ptr 10 0)] false), (.cells [(.slice 11 0 128 128 1)] false), ob1, (.cells (cex7 ++ (cex1 ++ (ce1 ++ (ce2)))) false), (.cells cex2 false)],
 []⟩⟩
theorem ok3_6 : N3_6.ok = true := by kernel_rfl
def N3_7 : NT := ⟨2, [86, 29], ⟨List.append ([(i6' 8), (.int .u32 tm12), .lost, .lost, .lost, (bo' true), .lost, (.ptr 6 0)]) (List.append (List.replicate 78 .lost) (List.append ([(.ptr 6 0), .lost, .lost, .lost, .lost, .nilSlice, .lost, .lost, .lost, .lost, (.slice 7 0 26 26 1), (i6' 26), (i6' 0)]) (List.replicate 16 .lost))),
 objsFrom 198 0 doorL ++ [ob0, (.cells (ce9 ++ (ce9)) false), (.cells [(.ptr 10 0)] false), (.cells [(.slice 11 0 128 128 1)] false), ob1, (.cells (cex8 ++ (cex1 ++ (ce1 ++ (ce2)))) false), (.cells cex2 false)],
 []⟩⟩
theorem ok3_7 : N3_7.ok = true := by kernel_rfl
def N3_8 : NT := ⟨2, [86, 29], ⟨List.append ([(i6' 9), (.int .u32 tm12), .lost, .lost, .lost, (bo' true), .lost, (.ptr 6 0)]) (List.append (List.replicate 78 .lost) (List.append ([(.ptr 6 0), .lost, .lost, .lost, .lost, .nilSlice, .lost, .lost, .lost, .lost, (.slice 7 0 29 29 1), (i6' 29), (i6' 0)]) (List.replicate 16 .lost))),
 objsFrom 198 0 doorL ++ [ob0, (.cells (ce9 ++ (ce9 ++ (ce19))) false), (.cells [(.ptr 10 0)] false), (.cells [(.slice 11 0 128 128 1)] false), ob1, (.cells (cex9 ++ (cex1 ++ (ce1 ++ (ce2)))) false), (.cells cex2 false)],
 []⟩⟩
theorem ok3_8 : N3_8.ok = true := by kernel_rfl
def N3_9 : NT := ⟨2, [86, 29], ⟨List.append ([(i6' 10), (.int .u32 tm12), .lost, .lost, .lost, (bo' true), .lost, (.ptr 6 0)]) (List.append (List.replicate 78 .lost) (List.append ([(.ptr 6 0), .lost, .lost, .lost, .lost, .nilSlice, .lost, .lost, .lost, .lost, (.slice 7 0 32 32 1), (i6' 32), (i6' 0)]) (List.replicate 16 .lost))),
 objsFrom 198 0 doorL ++ [ob0, (.cells (ce9 ++ (ce9 ++ (ce21))) false), (.cells [(.ptr 10 0)] false), (.cells [(.slice 11 0 128 128 1)] false), ob1, (.cells (cex10 ++ (cex1 ++ (ce1 ++ (ce2)))) false), (.cells cex2 false)],
 []⟩⟩
theorem ok3_9 : N3_9.ok = true := by kernel_rfl
def N3_10 : NT := ⟨2, [86, 29], ⟨List.append ([(i6' 11), (.int .u32 tm12), .lost, .lost, .lost, (bo' true), .lost, (.ptr 6 0)]) (List.append (List.replicate 78 .lost) (List.append ([(.ptr 6 0), .lost, .lost, .lost, .lost, .nilSlice, .lost, .lost, .lost, .lost, (.slice 7 0 35 35 1), (i6' 35), (i6' 0)]) (List.replicate 16 .lost))),
 objsFrom 198 0 doorL ++ [ob0, (.cells (ce9 ++ (ce9 ++ (ce23))) false), (.cells [(.ptr 10 0)] false), (.cells [(.slice 11 0 128 128 1)] false), ob1, (.cells (cex11 ++ (cex1 ++ (ce1 ++ (ce2)))) false), (.cells cex2 false)],
 []⟩⟩
theorem ok3_10 : N3_10.ok = true := by kernel_rfl
def N3_11 : NT := ⟨2, [86, 29], ⟨List.append ([(i6' 12), (.int .u32 tm12), .lost, .lost, .lost, (bo' true), .lost, (.ptr 6 0)]) (List.append (List.replicate 78 .lost) (List.append ([(.ptr 6 0), .lost, .lost, .lost, .lost, .nilSlice, .lost, .lost, .lost, .lost, (.slice 7 0 38 38 1), (i6' 38), (i6' 0)]) (List.replicate 16 .lost))),
 objsFrom 198 0 doorL ++ [ob0, (.cells (ce9 ++ (ce9 ++ (ce25))) false), (.cells [(.ptr 10 0)] false), (.cells [(.slice 11 0 128 128 1)] false), ob1, (.cells (cex12 ++ (cex1 ++ (ce1 ++ (ce2)))) false), (.cells cex2 false)],
 []⟩⟩
theorem ok3_11 : N3_11.ok = true := by kernel_rfl
def N3_12 : NT := ⟨2, [86, 29], ⟨List.append ([(i6' 13), (.int .u32 tm12), .lost, .lost, .lost, (bo' true), .lost, (.ptr 6 0)]) (List.append (List.replicate 78 .lost) (List.append ([(.ptr 6 0), .lost, .lost, .lost, .lost, .nilSlice, .lost, .lost, .lost, .lost, (.slice 7 0 41 41 1), (i6' 41), (i6' 0)]) (List.replicate 16 .lost))),
 objsFrom 198 0 doorL ++ [ob0, (.cells cex13 false), (.cells [(.ptr 10 0)] false), (.cells [(.slice 11 0 128 128 1)] false), ob1, (.cells (cex14 ++ (cex1 ++ (ce1 ++ (ce2)))) false), (.cells cex2 false)],
 []⟩⟩
theorem ok3_12 : N3_12.ok = true := by kernel_rfl
def N3_13 : NT := ⟨2, [86, 29], ⟨List.append ([(i6' 14), (.int .u32 tm12), .lost, .lost, .lost, (bo' true), .lost, (.ptr 6 0)]) (List.append (List.replicate 78 .lost) (List.append ([(.ptr 6 0), .lost, .lost, .lost, .lost, .nilSlice, .lost, .lost, .lost, .lost, (.slice 7 0 44 44 1), (i6' 44), (i6' 0)]) (List.replicate 16 .lost))),
 objsFrom 198 0 doorL ++ [ob0, (.cells cex15 false), (.cells [(.ptr 10 0)] false), (.cells [(.slice 11 0 128 128 1)] false), ob1, (.cells (cex16 ++ (cex1 ++ (ce1 ++ (ce2)))) false), (.cells cex2 false)],
 []⟩⟩
theorem ok3_13 : N3_13.ok = true := by kernel_rfl
def N3_14 : NT := ⟨2, [86, 29], ⟨List.append ([(i6' 15), (.int .u32 tm12), .lost, .lost, .lost, (bo' true), .lost, (.ptr 6 0)]) (List.append (List.replicate 78 .lost) (List.append ([(.ptr 6 0), .lost, .lost, .lost, .lost, .nilSlice, .lost, .lost, .lost, .lost, (.slice 7 0 47 47 1), (i6' 47), (i6' 0)]) (List.replicate 16 .lost))),
 objsFrom 198 0 doorL ++ [ob0, (.cells cex17 false), (.cells [(.ptr 10 0)] false), (.cells [(.slice 11 0 128 128 1)] false), ob1, (.cells (cex18 ++ (cex1 ++ (ce1 ++ (ce2)))) false), (.cells cex2 false)],
 []⟩⟩
theorem ok3_14 : N3_14.ok = true := by kernel_rfl
def N3_15 : NT := ⟨2, [86, 29], ⟨List.append ([(i6' 16), (.int .u32 tm12), .lost, .lost, .lost, (bo' true), .lost, (.ptr 6 0)]) (List.append (List.replicate 78 .lost) (List.append ([(.ptr 6 0), .lost, .lost, .lost, .lost, .nilSlice, .lost, .lost, .lost, .lost, (.slice 7 0 50 50 1), (i6' 50), (i6' 0)]) (List.replicate 16 .lost))),
 objsFrom 198 0 doorL ++ [ob0, (.cells cex19 false), (.cells [(.ptr 10 0)] false), (.cells [(.slice 11 0 128 128 1)] false), ob1, (.cells (cex20 ++ (cex1 ++ (ce1 ++ (ce2)))) false), (.cells cex2 false)],
 []⟩⟩
theorem ok3_15 : N3_15.ok = true := by kernel_rfl
def N3_16 : NT := ⟨2, [86, 29], ⟨List.append ([(i6' 17), (.int .u32 tm12), .lost, .lost, .lost, (bo' true), .lost, (.ptr 6 0)]) (List.append (List.replicate 78 .lost) (List.append ([(.ptr 6 0), .lost, .lost, .lost, .lost, .nilSlice, .lost, .lost, .lost, .lost, (.slice 7 0 53 53 1), (i6' 53), (i6' 0)]) (List.replicate 16 .lost))),
 objsFrom 198 0 doorL ++ [ob0, (.cells (cex21 ++ (ce10)) false), (.cells [(.ptr 10 0)] false), (.cells [(.slice 11 0 128 128 1)] false), ob1, (.cells (cex22 ++ (cex1 ++ (ce1 ++ (ce2)))) false), (.cells cex2 false)],
 []⟩⟩
theorem ok3_16 : N3_16.ok = true := by kernel_rfl
def N3_17 : NT := ⟨2, [86, 29], ⟨List.append ([(i6' 18), (.int .u32 tm12), .lost, .lost, .lost, (bo' true), .lost, (.ptr 6 0)]) (List.append (List.replicate 78 .lost) (List.append ([(.ptr 6 0), .lost, .lost, .lost, .lost, .nilSlice, .lost, .lost, .lost, .lost, (.slice 7 0 56 56 1), (i6' 56), (i6' 0)]) (List.replicate 16 .lost))),
 objsFrom 198 0 doorL ++ [ob0, (.cells (cex21 ++ (ce12)) false), (.cells [(.ptr 10 0)] false), (.cells [(.slice 11 0 128 128 1)] false), ob1, (.cells (cex23 ++ (cex1 ++ (ce1 ++ (ce2)))) false), (.cells cex2 false)],
 []⟩⟩
theorem ok3_17 : N3_17.ok = true := by kernel_rfl
def N3_18 : NT := ⟨2, [86, 29], ⟨List.append ([(i6' 19), (.int .u32 tm12), .lost, .lost, .lost, (bo' true), .lost, (.ptr 6 0)]) (List.append (List.replicate 78 .lost) (List.append ([(.ptr 6 0), .lost, .lost, .lost, .lost, .nilSlice, .lost, .lost, .lost, .lost, (.slice 7 0 59 59 1), (i6' 59), (i6' 0)]) (List.replicate 16 .lost))),
 objsFrom 198 0 doorL ++ [ob0, (.cells (cex21 ++ (ce14)) false), (.cells [(.ptr 10 0)] false), (.cells [(.slice 11 0 128 128 1)] false), ob1, (.cells (cex24 ++ (cex1 ++ (ce1 ++ (ce2)))) false), (.cells cex2 false)],
 []⟩⟩
theorem ok3_18 : N3_18.ok = true := by kernel_rfl
def N3_19 : NT := ⟨2, [86, 29], ⟨List.append ([(i6' 20), (.int .u32 tm12), .lost, .lost, .lost, (bo' true), .lost, (.ptr 6 0)]) (List.append (List.replicate 78 .lost) (List.append ([(.ptr 6 0), .lost, .lost, .lost, .lost, .nilSlice, .lost, .lost, .lost, .lost, (.slice 7 0 62 62 1), (i6' 62), (i6' 0)]) (List.replicate 16 .lost))),
 objsFrom 198 0 doorL ++ [ob0, (.cells (cex21 ++ (ce16)) false), (.cells [(.ptr 10 0)] false), (.cells [(.slice 11 0 128 128 1)] false), ob1, (.cells (cex25 ++ (cex1 ++ (ce1 ++ (ce2)))) false), (.cells cex2 false)],
 []⟩⟩
theorem ok3_19 : N3_19.ok = true := by kernel_rfl
def N3_20 : NT := ⟨2, [86, 29], ⟨List.append ([(i6' 21), (.int .u32 tm12), .lost, .lost, .lost, (bo' true), .lost, (.ptr 6 0)]) (List.append (List.replicate 78 .lost) (List.append ([(.ptr 6 0), .lost, .lost, .lost, .lost, .nilSlice, .lost, .lost, .lost, .lost, (.slice 7 0 65 65 1), (i6' 65), (i6' 0)]) (List.replicate 16 .lost))),
 objsFrom 198 0 doorL ++ [ob0, (.cells (cex21 ++ (ce9)) false), (.cells [(.ptr 10 0)] false), (.cells [(.slice 11 0 128 128 1)] false), ob1, (.cells (cex26 ++ (cex1 ++ (ce1 ++ (ce2)))) false), (.cells cex2 false)],
 []⟩⟩
theorem ok3_20 : N3_20.ok = true := by kernel_rfl
def N3_21 : NT := ⟨2, [86, 29], ⟨List.append ([(i6' 22), (.int .u32 tm12), .lost, .lost, .lost, (bo' true), .lost, (.ptr 6 0)]) (List.append (List.replicate 78 .lost) (List.append ([(.ptr 6 0), .lost, .lost, .lost, .lost, .nilSlice, .lost, .lost, .lost, .lost, (.slice 7 0 68 68 1), (i6' 68), (i6' 0)]) (List.replicate 16 .lost))),
 objsFrom 198 0 doorL ++ [ob0, (.cells (cex21 ++ (ce9 ++ (ce19))) false), (.cells [(.ptr 10 0)] false), (.cells [(.slice 11 0 128 128 1)] false), ob1, (.cells (cex27 ++ (cex1 ++ (ce1 ++ (ce2)))) false), (.cells cex2 false)],
 []⟩⟩
theorem ok3_21 : N3_21.ok = true := by kernel_rfl
def N3_22 : NT := ⟨2, [86, 29], ⟨List.append ([(i6' 23), (.int .u32 tm12), .lost, .lost, .lost, (bo' true), .lost, (.ptr 6 0)]) (List.append (List.replicate 78 .lost) (List.append ([(.ptr 6 0), .lost, .lost, .lost, .lost, .nilSlice, .lost, .lost, .lost, .lost, (.slice 7 0 71 71 1), (i6' 71), (i6' 0)]) (List.replicate 16 .lost))),
 objsFrom 198 0 doorL ++ [ob0, (.cells (cex21 ++ (ce9 ++ (ce21))) false), (.cells [(.ptr 10 0)] false), (.cells [(.slice 11 0 128 128 1)] false), ob1, (.cells (cex28 ++ (cex1 ++ (ce1 ++ (ce2)))) false), (.cells cex2 false)],
 []⟩⟩
theorem ok3_22 : N3_22.ok = true := by kernel_rfl
def N3_23 : NT := ⟨2, [86, 29], ⟨List.append ([(i6' 24), (.int .u32 tm12), .lost, .lost, .lost, (bo' true), .lost, (.ptr 6 0)]) (List.append (List.replicate 78 .lost) (List.append ([(.ptr 6 0), .lost, .lost, .lost, .lost, .nilSlice, .lost, .lost, .lost, .lost, (.slice 7 0 74 74 1), (i6' 74), (i6' 0)]) (List.replicate 16 .lost))),
 objsFrom 198 0 doorL ++ [ob0, (.cells (cex21 ++ (ce9 ++ (ce23))) false), (.cells [(.ptr 10 0)] false), (.cells [(.slice 11 0 128 128 1)] false), ob1, (.cells (cex29 ++ (cex1 ++ (ce1 ++ (ce2)))) false), (.cells cex2 false)],
 []⟩⟩
theorem ok3_23 : N3_23.ok = true := by kernel_rfl
def N3_24 : NT := ⟨2, [86, 29], ⟨List.append ([(i6' 25), (.int .u32 tm12), .lost, .lost, .lost, (bo' true), .lost, (.ptr 6 0)]) (List.append (List.replicate 78 .lost) (List.append ([(.ptr 6 0), .lost, .lost, .lost, .lost, .nilSlice, .lost, .lost, .lost, .lost, (.slice 7 0 77 77 1), (i6' 77), (i6' 0)]) (List.replicate 16 .lost))),
 objsFrom 198 0 doorL ++ [ob0, (.cells (cex21 ++ (ce9 ++ (ce25))) false), (.cells [(.ptr 10 0)] false), (.cells [(.slice 11 0 128 128 1)] false), ob1, (.cells (cex30 ++ (cex1 ++ (ce1 ++ (ce2)))) false), (.cells cex2 false)],
 []⟩⟩
theorem ok3_24 : N3_24.ok = true := by kernel_rfl
def N3_25 : NT := ⟨2, [86, 29], ⟨List.append ([(i6' 26), (.int .u32 tm12), .lost, .lost, .lost, (bo' true), .lost, (.ptr 6 0)]) (List.append (List.replicate 78 .lost) (List.append ([(.ptr 6 0), .lost, .lost, .lost, .lost, .nilSlice, .lost, .lost, .lost, .lost, (.slice 7 0 80 80 1), (i6' 80), (i6' 0)]) (List.replicate 16 .lost))),
 objsFrom 198 0 doorL ++ [ob0, (.cells (cex21 ++ (ce9 ++ (ce9 ++ (ce27)))) false), (.cells [(.ptr 10 0)] false), (.cells [(.slice 11 0 128 128 1)] false), ob1, (.cells (cex31 ++ (cex1 ++ (ce1 ++ (ce2)))) false), (.cells cex2 false)],
 []⟩⟩
theorem ok3_25 : N3_25.ok = true := by kernel_rfl
def N3_26 : NT := ⟨2, [86, 29], ⟨List.append ([(i6' 27), (.int .u32 tm12), .lost, .lost, .lost, (bo' true), .lost, (.ptr 6 0)]) (List.append (List.replicate 78 .lost) (List.append ([(.ptr 6 0), .lost, .lost, .lost, .lost, .nilSlice, .lost, .lost, .lost, .lost, (.slice 7 0 83 83 1), (i6' 83), (i6' 0)]) (List.replicate 16 .lost))),
 objsFrom 198 0 doorL ++ [ob0, (.cells (cex21 ++ (ce9 ++ (ce9 ++ (ce29)))) false), (.cells [(.ptr 10 0)] false), (.cells [(.slice 11 0 128 128 1)] false), ob1, (.cells (cex32 ++ (cex1 ++ (ce1 ++ (ce2)))) false), (.cells cex2 false)],
 []⟩⟩
theorem ok3_26 : N3_26.ok = true := by kernel_rfl
def N3_27 : NT := ⟨2, [86, 29], ⟨List.append ([(i6' 28), (.int .u32 tm12), .lost, .lost, .lost, (bo' true), .lost, (.ptr 6 0)]) (List.append (List.replicate 78 .lost) (List.append ([(.ptr 6 0), .lost, .lost, .lost, .lost, .nilSlice, .lost, .lost, .lost, .lost, (.slice 7 0 86 86 1), (i6' 86), (i6' 0)]) (List.replicate 16 .lost))),
 objsFrom 198 0 doorL ++ [ob0, (.cells (cex21 ++ (ce9 ++ (ce9 ++ (ce6)))) false), (.cells [(.ptr 10 0)] false), (.cells [(.slice 11 0 128 128 1)] false), ob1, (.cells (cex33 ++ (cex1 ++ (ce1 ++ (ce2)))) false), (.cells cex2 false)],
 []⟩⟩
theorem ok3_27 : N3_27.ok = true := by kernel_rfl
def N3_28 : NT := ⟨2, [86, 29], ⟨List.append ([(i6' 29), (.int .u32 tm12), .lost, .lost, .lost, (bo' true), .lost, (.ptr 6 0)]) (List.append (List.replicate 78 .lost) (List.append ([(.ptr 6 0), .lost, .lost, .lost, .lost, .nilSlice, .lost, .lost, .lost, .lost, (.slice 7 0 89 89 1), (i6' 89), (i6' 0)]) (List.replicate 16 .lost))),
 objsFrom 198 0 doorL ++ [ob0, (.cells (cex21 ++ (ce9 ++ (ce9 ++ (ce7)))) false), (.cells [(.ptr 10 0)] false), (.cells [(.slice 11 0 128 128 1)] false), ob1, (.cells (cex34 ++ (cex1 ++ (ce1 ++ (ce2)))) false), (.cells cex2 false)],
 []⟩⟩
theorem ok3_28 : N3_28.ok = true := by kernel_rfl
def N3_29 : NT := ⟨2, [86, 29], ⟨List.append ([(i6' 30), (.int .u32 tm12), .lost, .lost, .lost, (bo' true), .lost, (.ptr 6 0)]) (List.append (List.replicate 78 .lost) (List.append ([(.ptr 6 0), .lost, .lost, .lost, .lost, .nilSlice, .lost, .lost, .lost, .lost, (.slice 7 0 92 92 1), (i6' 92), (i6' 0)]) (List.replicate 16 .lost))),
 objsFrom 198 0 doorL ++ [ob0, (.cells (cex21 ++ (cex35)) false), (.cells [(.ptr 10 0)] false), (.cells [(.slice 11 0 128 128 1)] false), ob1, (.cells (cex36 ++ (cex1 ++ (ce1 ++ (ce2)))) false), (.cells cex2 false)],
 []⟩⟩
theorem ok3_29 : N3_29.ok = true := by kernel_rfl
def N4_0 : NT := ⟨2, [86, 29], ⟨List.append ([(i6' 3), (.int .u32 tm12), .lost, .lost, .lost, (bo' true), .lost, (.ptr 6 0)]) (List.append (List.replicate 78 .lost) (List.append ([(.ptr 6 0), .lost, .lost, .lost, .lost, (.slice 7 0 9 9 13), .lost, .lost, .lost, .lost, (.slice 8 0 11 11 1), (i6' 11), (i6' 9)]) (List.replicate 16 .lost))),
 objsFrom 198 0 doorL ++ [ob2, (.cells ([(i6' 1), (u3' 0), (u3' 3145875), (u3' 0), (u3' 0), (u3' 0), .nilSlice, .nilSlice, (u3' 0), (u3' 0), (bo' false), (i6' 1), (i6' 2)] ++ (cex37 ++ (cex38))) false), (.cells ce7 false), (.cells [(.ptr 11 0)] false), (.cells [(.slice 12 0 128 128 1)] false), ob3, (.cells (cex3 ++ (cex1 ++ (ce1 ++ (ce2)))) false), (.cells (ce55 ++ ([(u3' 0), (u3' 0), (.int .u32 tm8), (u3' 0), (u3' 0), (u3' 0), (u3' 0), (u3' 0), (u3' 0), (u3' 0), (u3' 0), (u3' 0), (u3' 0)] ++ (ce4 ++ (ce5)))) false)],
 []⟩⟩
theorem ok4_0 : N4_0.ok = true := by kernel_rfl
def N4_1 : NT := ⟨2, [86, 29], ⟨List.append ([(i6' 4), (.int .u32 tm12), .lost, .lost, .lost, (bo' true), .lost, (.ptr 6 0)]) (List.append (List.replicate 78 .lost) (List.append ([(.ptr 6 0), .lost, .lost, .lost, .lost, (.slice 7 0 9 9 13), .lost, .lost, .lost, .lost, (.slice 8 0 14 14 1), (i6' 14), (i6' 9)]) (List.replicate 16 .lost))),
 objsFrom 198 0 doorL ++ [ob2, (.cells ([(i6' 1), (u3' 0), (u3' 4194451), (u3' 0), (u3' 0), (u3' 0), .nilSlice, .nilSlice, (u3' 0), (u3' 0), (bo' false), (i6' 1), (i6' 2)] ++ (cex37 ++ (cex38))) false), (.cells (ce9 ++ (ce10)) false), (.cells [(.ptr 11 0)] false), (.cells [(.slice 12 0 128 128 1)] false), ob3, (.cells (cex4 ++ (cex1 ++ (ce1 ++ (ce2)))) false), (.cells (ce55 ++ ([(u3' 1), (u3' 0), (.int .u32 tm8), (u3' 0), (u3' 0), (u3' 0), (u3' 0), (u3' 0), (u3' 0), (u3' 0), (u3' 0), (u3' 0), (u3' 0)] ++ (ce4 ++ (ce5)))) false)],
 []⟩⟩
theorem ok4_1 : N4_1.ok = true := by kernel_rfl
def N4_2 : NT := ⟨2, [86, 29], ⟨List.append ([(i6' 5), (.int .u32 tm12), .lost, .lost, .lost, (bo' true), .lost, (.ptr 6 0)]) (List.append (List.replicate 78 .lost) (List.append ([(.ptr 6 0), .lost, .lost, .lost, .lost, (.slice 7 0 9 9 13), .lost, .lost, .lost, .lost, (.slice 8 0 17 17 1), (i6' 17), (i6' 9)]) (List.replicate 16 .lost))),
 objsFrom 198 0 doorL ++ [ob2, (.cells ([(i6' 1), (u3' 0), (u3' 5243027), (u3' 0), (u3' 0), (u3' 0), .nilSlice, .nilSlice, (u3' 0), (u3' 0), (bo' false), (i6' 1), (i6' 2)] ++ (cex37 ++ (cex38))) false), (.cells (ce9 ++ (ce12)) false), (.cells [(.ptr 11 0)] false), (.cells [(.slice 12 0 128 128 1)] false), ob3, (.cells (cex5 ++ (cex1 ++ (ce1 ++ (ce2)))) false), (.cells (ce55 ++ ([(u3' 2), (u3' 0), (.int .u32 tm8), (u3' 0), (u3' 0), (u3' 0), (u3' 0), (u3' 0), (u3' 0), (u3' 0), (u3' 0), (u3' 0), (u3' 0)] ++ (ce4 ++ (ce5)))) false)],
 []⟩⟩
theorem ok4_2 : N4_2.ok = true := by kernel_rfl
def N4_3 : NT := ⟨2, [86, 29], ⟨List.append ([(i6' 6), (.int .u32 tm12), .lost, .lost, .lost, (bo' true), .lost, (.ptr 6 0)]) (List.append (List.replicate 78 .lost) (List.append ([(.ptr 6 0), .lost, .lost, .lost, .lost, (.slice 7 0 9 9 13), .lost, .lost, .lost, .lost, (.slice 8 0 20 20 1), (i6' 20), (i6' 9)]) (List.replicate 16 .lost))),
 objsFrom 198 0 doorL ++ [ob2, (.cells (cex39 ++ (cex40 ++ (ce54))) false), (.cells (ce9 ++ (ce14)) false), (.cells [(.ptr 11 0)] false), (.cells [(.slice 12 0 128 128 1)] false), ob3, (.cells (cex6 ++ (cex1 ++ (ce1 ++ (ce2)))) false), (.cells (ce55 ++ ([(u3' 3), (u3' 0), (.int .u32 tm8), (u3' 0), (u3' 0), (u3' 0), (u3' 0), (u3' 0), (u3' 0), (u3' 0), (u3' 0), (u3' 0), (u3' 0)] ++ (ce4 ++ (ce5)))) false)],
 []⟩⟩
theorem ok4_3 : N4_3.ok = true := by kernel_rfl
def N4_4 : NT := ⟨2, [86, 29], ⟨List.append ([(i6' 7), (.int .u32 tm12), .lost, .lost, .lost, (bo' true), .lost, (.ptr 6 0)]) (List.append (List.replicate 78 .lost) (List.append ([(.ptr 6 0), .lost, .lost, .lost, .lost, (.slice 7 0 9 9 13), .lost, .lost, .lost, .lost, (.slice 8 0 23 23 1), (i6' 23), (i6' 9)]) (List.replicate 16 .lost))),
 objsFrom 198 0 doorL ++ [ob2, (.cells (cex41 ++ (cex40 ++ (ce54))) false), (.cells (ce9 ++ (ce16)) false), (.cells [(.ptr 11 0)] false), (.cells [(.slice 12 0 128 128 1)] false), ob3, (.cells (cex7 ++ (cex1 ++ (ce1 ++ (ce2)))) false), (.cells (ce55 ++ ([(u3' 4), (u3' 0), (.int .u32 tm8), (u3' 0), (u3' 0), (u3' 0), (u3' 0), (u3' 0), (u3' 0), (u3' 0), (u3' 0), (u3' 0), (u3' 0)] ++ (ce4 ++ (ce5)))) false)],
 []⟩⟩
theorem ok4_4 : N4_4.ok = true := by kernel_rfl
def N4_5 : NT := ⟨2, [86, 29], ⟨List.append ([(i6' 8), (.int .u32 tm12), .lost, .lost, .lost, (bo' true), .lost, (.ptr 6 0)]) (List.append (List.replicate 78 .lost) (List.append ([(.ptr 6 0), .lost, .lost, .lost, .lost, (.slice 7 0 9 9 13), .lost, .lost, .lost, .lost, (.slice 8 0 26 26 1), (i6' 26), (i6' 9)]) (List.replicate 16 .lost))),
 objsFrom 198 0 doorL ++ [ob2, (.cells (cex42 ++ (cex40 ++ (ce54))) false), (.cells (ce9 ++ (ce9)) false), (.cells [(.ptr 11 0)] false), (.cells [(.slice 12 0 128 128 1)] false), ob3, (.cells (cex8 ++ (cex1 ++ (ce1 ++ (ce2)))) false), (.cells (ce55 ++ ([(u3' 5), (u3' 0), (.int .u32 tm8), (u3' 0), (u3' 0), (u3' 0), (u3' 0), (u3' 0), (u3' 0), (u3' 0), (u3' 0), (u3' 0), (u3' 0)] ++ (ce4 ++ (ce5)))) false)],
 []⟩⟩
theorem ok4_5 : N4_5.ok = true := by kernel_rfl
def N4_6 : NT := ⟨2, [86, 29], ⟨List.append ([(i6' 9), (.int .u32 tm12), .lost, .lost, .lost, (bo' true), .lost, (.ptr 6 0)]) (List.append (List.replicate 78 .lost) (List.append ([(.ptr 6 0), .lost, .lost, .lost, .lost, (.slice 7 0 9 9 13), .lost, .lost, .lost, .lost, (.slice 8 0 29 29 1), (i6' 29), (i6' 9)]) (List.replicate 16 .lost))),
 objsFrom 198 0 doorL ++ [ob2, (.cells (cex43 ++ (cex40 ++ (ce54))) false), (.cells (ce9 ++ (ce9 ++ (ce19))) false), (.cells [(.ptr 11 0)] false), (.cells [(.slice 12 0 128 128 1)] false), ob3, (.cells (cex9 ++ (cex1 ++ (ce1 ++ (ce2)))) false), (.cells (ce55 ++ ([(u3' 6), (u3' 0), (.int .u32 tm8), (u3' 0), (u3' 0), (u3' 0), (u3' 0), (u3' 0), (u3' 0), (u3' 0), (u3' 0), (u3' 0), (u3' 0)] ++ (ce4 ++ (ce5)))) false)],
 []⟩⟩
theorem ok4_6 : N4_6.ok = true := by kernel_rfl
def N4_7 : NT := ⟨2, [86, 29], ⟨List.append ([(i6' 10), (.int .u32 tm12), .lost, .lost, .lost, (bo' true), .lost, (.ptr 6 0)]) (List.append (List.replicate 78 .lost) (List.append ([(.ptr 6 0), .lost, .lost, .lost, .lost, (.slice 7 0 9 9 13), .lost, .lost, .lost, .lost, (.slice 8 0 32 32 1), (i6' 32), (i6' 9)]) (List.replicate 16 .lost))),
 objsFrom 198 0 doorL ++ [ob2, (.cells (cex44 ++ (cex40 ++ (ce54))) false), (.cells (ce9 ++ (ce9 ++ (ce21))) false), (.cells [(.ptr 11 0)] false), (.cells [(.slice 12 0 128 128 1)] false), ob3, (.cells (cex10 ++ (cex1 ++ (ce1 ++ (ce2)))) false), (.cells (ce55 ++ ([(u3' 7), (u3' 0), (.int .u32 tm8), (u3' 0), (u3' 0), (u3' 0), (u3' 0), (u3' 0), (u3' 0), (u3' 0), (u3' 0), (u3' 0), (u3' 0)] ++ (ce4 ++ (ce5)))) false)],
 []⟩⟩
theorem ok4_7 : N4_7.ok = true := by kernel_rfl
def N4_8 : NT := ⟨2, [86, 29], ⟨List.append ([(i6' 11), (.int .u32 tm12), .lost, .lost, .lost, (bo' true), .lost, (.ptr 6 0)]) (List.append (List.replicate 78 .lost) (List.append ([(.ptr 6 0), .lost, .lost, .lost, .lost, (.slice 7 0 9 9 13), .lost, .lost, .lost, .lost, (.slice 8 0 35 35 1), (i6' 35), (i6' 9)]) (List.replicate 16 .lost))),
 objsFrom 198 0 doorL ++ [ob2, (.cells (cex45 ++ (cex40 ++ (ce54))) false), (.cells (ce9 ++ (ce9 ++ (ce23))) false), (.cells [(.ptr 11 0)] false), (.cells [(.slice 12 0 128 128 1)] false), ob3, (.cells (cex11 ++ (cex1 ++ (ce1 ++ (ce2)))) false), (.cells (ce55 ++ ([(u3' 8), (u3' 0), (.int .u32 tm8), (u3' 0), (u3' 0), (u3' 0), (u3' 0), (u3' 0), (u3' 0), (u3' 0), (u3' 0), (u3' 0), (u3' 0)] ++ (ce4 ++ (ce5)))) false)],
 []⟩⟩
theorem ok4_8 : N4_8.ok = true := by kernel_rfl
def N4_9 : NT := ⟨2, [86, 29], ⟨List.append ([(i6' 12), (.int .u32 tm12), .lost, .lost, .lost, (bo' true), .lost, (.ptr 6 0)]) (List.append (List.replicate 78 .lost) (List.append ([(.ptr 6 0), .lost, .lost, .lost, .lost, (.slice 7 0 9 9 13), .lost, .lost, .lost, .lost, (.slice 8 0 38 38 1), (i6' 38), (i6' 9)]) (List.replicate 16 .lost))),
 objsFrom 198 0 doorL ++ [ob2, (.cells (cex46 ++ (cex40 ++ (ce54))) false), (.cells (ce9 ++ (ce9 ++ (ce25))) false), (.cells [(.ptr 11 0)] false), (.cells [(.slice 12 0 128 128 1)] false), ob3, (.cells (cex12 ++ (cex1 ++ (ce1 ++ (ce2)))) false), (.cells (ce55 ++ ([(u3' 9), (u3' 0), (.int .u32 tm8), (u3' 0), (u3' 0), (u3' 0), (u3' 0), (u3' 0), (u3' 0), (u3' 0), (u3' 0), (u3' 0), (u3' 0)] ++ (ce4 ++ (ce5)))) false)],
 []⟩⟩
theorem ok4_9 : N4_9.ok = true := by kernel_rfl
def N4_10 : NT := ⟨2, [86, 29], ⟨List.append ([(i6' 13), (.int .u32 tm12), .lost, .lost, .lost, (bo' true), .lost, (.ptr 6 0)]) (List.append (List.replicate 78 .lost) (List.append ([(.ptr 6 0), .lost, .lost, .lost, .lost, (.slice 7 0 9 9 13), .lost, .lost, .lost, .lost, (.slice 8 0 41 41 1), (i6' 41), (i6' 9)]) (List.replicate 16 .lost))),
 objsFrom 198 0 doorL ++ [ob2, (.cells (cex47 ++ (cex40 ++ (ce54))) false), (.cells cex13 false), (.cells [(.ptr 11 0)] false), (.cells [(.slice 12 0 128 128 1)] false), ob3, (.cells (cex14 ++ (cex1 ++ (ce1 ++ (ce2)))) false), (.cells (ce55 ++ ([(u3' 10), (u3' 0), (.int .u32 tm8), (u3' 0), (u3' 0), (u3' 0), (u3' 0), (u3' 0), (u3' 0), (u3' 0), (u3' 0), (u3' 0), (u3' 0)] ++ (ce4 ++ (ce5)))) false)],
 []⟩⟩
theorem ok4_10 : N4_10.ok = true := by kernel_rfl
def N4_11 : NT := ⟨2, [86, 29], ⟨List.append ([(i6' 14), (.int .u32 tm12), .lost, .lost, .lost, (bo' true), .lost, (.ptr 6 0)]) (List.append (List.replicate 78 .lost) (List.append ([(.ptr 6 0), .lost, .lost, .lost, .lost, (.slice 7 0 9 9 13), .lost, .lost, .lost, .lost, (.slice 8 0 44 44 1), (i6' 44), (i6' 9)]) (List.replicate 16 .lost))),
 objsFrom 198 0 doorL ++ [ob2, (.cells (cex48 ++ (cex40 ++ (ce54))) false), (.cells cex15 false), (.cells [(.ptr 11 0)] false), (.cells [(.slice 12 0 128 128 1)] false), ob3, (.cells (cex16 ++ (cex1 ++ (ce1 ++ (ce2)))) false), (.cells (ce55 ++ ([(u3' 11), (u3' 0), (.int .u32 tm8), (u3' 0), (u3' 0), (u3' 0), (u3' 0), (u3' 0), (u3' 0), (u3' 0), (u3' 0), (u3' 0), (u3' 0)] ++ (ce4 ++ (ce5)))) false)],
 []⟩⟩
theorem ok4_11 : N4_11.ok = true := by kernel_rfl
def N4_12 : NT := ⟨2, [86, 29], ⟨List.append ([(i6' 15), (.int .u32 tm12), .lost, .lost, .lost, (bo' true), .lost, (.ptr 6 0)]) (List.append (List.replicate 78 .lost) (List.append ([(.ptr 6 0), .lost, .lost, .lost, .lost, (.slice 7 0 9 9 13), .lost, .lost, .lost, .lost, (.slice 8 0 47 47 1), (i6' 47), (i6' 9)]) (List.replicate 16 .lost))),
 objsFrom 198 0 doorL ++ [ob2, (.cells (cex49 ++ (cex40 ++ (ce54))) false), (.cells cex17 false), (.cells [(.ptr 11 0)] false), (.cells [(.slice 12 0 128 128 1)] false), ob3, (.cells (cex18 ++ (cex1 ++ (ce1 ++ (ce2)))) false), (.cells (ce55 ++ ([(u3' 12), (u3' 0), (.int .u32 tm8), (u3' 0), (u3' 0), (u3' 0), (u3' 0), (u3' 0), (u3' 0), (u3' 0), (u3' 0), (u3' 0), (u3' 0)] ++ (ce4 ++ (ce5)))) false)],
 []⟩⟩
theorem ok4_12 : N4_12.ok = true := by kernel_rfl
def N4_13 : NT := ⟨2, [86, 29], ⟨List.append ([(i6' 16), (.int .u32 tm12), .lost, .lost, .lost, (bo' true), .lost, (.ptr 6 0)]) (List.append (List.replicate 78 .lost) (List.append ([(.ptr 6 0), .lost, .lost, .lost, .lost, (.slice 7 0 9 9 13), .lost, .lost, .lost, .lost, (.slice 8 0 50 50 1), (i6' 50), (i6' 9)]) (List.replicate 16 .lost))),
 objsFrom 198 0 doorL ++ [ob2, (.cells (cex50 ++ (cex40 ++ (ce54))) false), (.cells cex19 false), (.cells [(.ptr 11 0)] false), (.cells [(.slice 12 0 128 128 1)] false), ob3, (.cells (cex20 ++ (cex1 ++ (ce1 ++ (ce2)))) false), (.cells (ce55 ++ ([(u3' 13), (u3' 0), (.int .u32 tm8), (u3' 0), (u3' 0), (u3' 0), (u3' 0), (u3' 0), (u3' 0), (u3' 0), (u3' 0), (u3' 0), (u3' 0)] ++ (ce4 ++ (ce5)))) false)],
 []⟩⟩
theorem ok4_13 : N4_13.ok = true := by kernel_rfl
def N4_14 : NT := ⟨2, [86, 29], ⟨List.append ([(i6' 17), (.int .u32 tm12), .lost, .lost, .lost, (bo' true), .lost, (.ptr 6 0)]) (List.append (List.replicate 78 .lost) (List.append ([(.ptr 6 0), .lost, .lost, .lost, .lost, (.slice 7 0 9 9 13), .lost, .lost, .lost, .lost, (.slice 8 0 53 53 1), (i6' 53), (i6' 9)]) (List.replicate 16 .lost))),
 objsFrom 198 0 doorL ++ [ob2, (.cells (cex51 ++ (cex40 ++ (ce54))) false), (.cells (cex21 ++ (ce10)) false), (.cells [(.ptr 11 0)] false), (.cells [(.slice 12 0 128 128 1)] false), ob3, (.cells (cex22 ++ (cex1 ++ (ce1 ++ (ce2)))) false), (.cells (ce55 ++ ([(u3' 14), (u3' 0), (.int .u32 tm8), (u3' 0), (u3' 0), (u3' 0), (u3' 0), (u3' 0), (u3' 0), (u3' 0), (u3' 0), (u3' 0), (u3' 0)] ++ (ce4 ++ (ce5)))) false)],
 []⟩⟩
theorem ok4_14 : N4_14.ok = true := by kernel_rfl
def N4_15 : NT := ⟨2, [86, 29], ⟨List.append ([(i6' 18), (.int .u32 tm12), .lost, .lost, .lost, (bo' true), .lost, (.ptr 6 0)]) (List.append (List.replicate 78 .lost) (List.append ([(.ptr 6 0), .lost, .lost, .lost, .lost, (.slice 7 0 9 9 13), .lost, .lost, .lost, .lost, (.slice 8 0 56 56 1), (i6' 56), (i6' 9)]) (List.replicate 16 .lost))),
 objsFrom 198 0 doorL ++ [ob2, (.cells (cex52 ++ (cex40 ++ (ce54))) false), (.cells (cex21 ++ (ce12)) false), (.cells [(.ptr 11 0)] false), (.cells [(.slice 12 0 128 128 1)] false), ob3, (.cells (cex23 ++ (cex1 ++ (ce1 ++ (ce2)))) false), (.cells (ce55 ++ ([(u3' 15), (u3' 0), (.int .u32 tm8), (u3' 0), (u3' 0), (u3' 0), (u3' 0), (u3' 0), (u3' 0), (u3' 0), (u3' 0), (u3' 0), (u3' 0)] ++ (ce4 ++ (ce5)))) false)],
 []⟩⟩
theorem ok4_15 : N4_15.ok = true := by kernel_rfl
def N4_16 : NT := ⟨2, [86, 29], ⟨List.append ([(i6' 19), (.int .u32 tm12), .lost, .lost, .lost, (bo' true), .lost, (.ptr 6 0)]) (List.append (List.replicate 78 .lost) (List.append ([(.ptr 6 0), .lost, .lost, .lost, .lost, (.slice 7 0 9 9 13), .lost, .lost, .lost, .lost, (.slice 8 0 59 59 1), (i6' 59), (i6' 9)]) (List.replicate 16 .lost))),
 objsFrom 198 0 doorL ++ [ob2, (.cells (cex53 ++ (cex40 ++ (ce54))) false), (.cells (cex21 ++ (ce14)) false), (.cells [(.ptr 11 0)] false), (.cells [(.slice 12 0 128 128 1)] false), ob3, (.cells (cex24 ++ (cex1 ++ (ce1 ++ (ce2)))) false), (.cells (ce55 ++ ([(u3' 16), (u3' 0), (.int .u32 tm8), (u3' 0), (u3' 0), (u3' 0), (u3' 0), (u3' 0), (u3' 0), (u3' 0), (u3' 0), (u3' 0), (u3' 0)] ++ (ce4 ++ (ce5)))) false)],
 []⟩⟩
theorem ok4_16 : N4_16.ok = true := by kernel_rfl
def N4_17 : NT := ⟨2, [86, 29], ⟨List.append ([(i6' 20), (.int .u32 tm12), .lost, .lost, .lost, (bo' true), .lost, (.ptr 6 0)]) (List.append (List.replicate 78 .lost) (List.append ([(.ptr 6 0), .lost, .lost, .lost, .lost, (.slice 7 0 9 9 13), .lost, .lost, .lost, .lost, (.slice 8 0 62 62 1), (i6' 62), (i6' 9)]) (List.replicate 16 .lost))),
 objsFrom 198 0 doorL ++ [ob2, (.cells (cex54 ++ (cex40 ++ (ce54))) false), (.cells (cex21 ++ (ce16)) false), (.cells [(.ptr 11 0)] false), (.cells [(.slice 12 0 128 128 1)] false), ob3, (.cells (cex25 ++ (cex1 ++ (ce1 ++ (ce2)))) false), (.cells (ce55 ++ ([(u3' 17), (u3' 0), (.int .u32 tm8), (u3' 0), (u3' 0), (u3' 0), (u3' 0), (u3' 0), (u3' 0), (u3' 0), (u3' 0), (u3' 0), (u3' 0)] ++ (ce4 ++ (ce5)))) false)],
 []⟩⟩
theorem ok4_17 : N4_17.ok = true := by kernel_rfl
def N4_18 : NT := ⟨2, [86, 29], ⟨List.append ([(i6' 21), (.int .u32 tm12), .lost, .lost, .lost, (bo' true), .lost, (.ptr 6 0)]) (List.append (List.replicate 78 .lost) (List.append ([(.ptr 6 0), .lost, .lost, .lost, .lost, (.slice 7 0 9 9 13), .lost, .lost, .lost, .lost, (.slice 8 0 65 65 1), (i6' 65), (i6' 9)]) (List.replicate 16 .lost))),
 objsFrom 198 0 doorL ++ [ob2, (.cells (cex55 ++ (cex40 ++ (ce54))) false), (.cells (cex21 ++ (ce9)) false), (.cells [(.ptr 11 0)] false), (.cells [(.slice 12 0 128 128 1)] false), ob3, (.cells (cex26 ++ (cex1 ++ (ce1 ++ (ce2)))) false), (.cells (ce55 ++ ([(u3' 18), (u3' 0), (.int .u32 tm8), (u3' 0), (u3' 0), (u3' 0), (u3' 0), (u3' 0), (u3' 0), (u3' 0), (u3' 0), (u3' 0), (u3' 0)] ++ (ce4 ++ (ce5)))) false)],
 []⟩⟩
theorem ok4_18 : N4_18.ok = true := by kernel_rfl
def N4_19 : NT := ⟨2, [86, 29], ⟨List.append ([(i6' 22), (.int .u32 tm12), .lost, .lost, .lost, (bo' true), .lost, (.ptr 6 0)]) (List.append (List.replicate 78 .lost) (List.append ([(.ptr 6 0), .lost, .lost, .lost, .lost, (.slice 7 0 9 9 13), .lost, .lost, .lost, .lost, (.slice 8 0 68 68 1), (i6' 68), (i6' 9)]) (List.replicate 16 .lost))),
 objsFrom 198 0 doorL ++ [ob2, (.cells (cex56 ++ (cex40 ++ (ce54))) false), (.cells (cex21 ++ (ce9 ++ (ce19))) false), (.cells [(.ptr 11 0)] false), (.cells [(.slice 12 0 128 128 1)] false), ob3, (.cells (cex27 ++ (cex1 ++ (ce1 ++ (ce2)))) false), (.cells (ce55 ++ ([(u3' 19), (u3' 0), (.int .u32 tm8), (u3' 0), (u3' 0), (u3' 0), (u3' 0), (u3' 0), (u3' 0), (u3' 0), (u3' 0), (u3' 0), (u3' 0)] ++ (ce4 ++ (ce5)))) false)],
 []⟩⟩
theorem ok4_19 : N4_19.ok = true := by kernel_rfl
def N4_20 : NT := ⟨2, [86, 29], ⟨List.append ([(i6' 23), (.int .u32 tm12), .lost, .lost, .lost, (bo' true), .lost, (.ptr 6 0)]) (List.append (List.replicate 78 .lost) (List.append ([(.ptr 6 0), .lost, .lost, .lost, .lost, (.slice 7 0 9 9 13), .lost, .lost, .lost, .lost, (.slice 8 0 71 71 1), (i6' 71), (i6' 9)]) (List.replicate 16 .lost))),
 objsFrom 198 0 doorL ++ [ob2, (.cells (cex57 ++ (cex40 ++ (ce54))) false), (.cells (cex21 ++ (ce9 ++ (ce21))) false), (.cells [(.ptr 11 0)] false), (.cells [(.slice 12 0 128 128 1)] false), ob3, (.cells (cex28 ++ (cex1 ++ (ce1 ++ (ce2)))) false), (.cells (ce55 ++ ([(u3' 20), (u3' 0), (.int .u32 tm8), (u3' 0), (u3' 0), (u3' 0), (u3' 0), (u3' 0), (u3' 0), (u3' 0), (u3' 0), (u3' 0), (u3' 0)] ++ (ce4 ++ (ce5)))) false)],
 []⟩⟩
theorem ok4_20 : N4_20.ok = true := by kernel_rfl
def N4_21 : NT := ⟨2, [86, 29], ⟨List.append ([(i6' 24), (.int .u32 tm12), .lost, .lost, .lost, (bo' true), .lost, (.ptr 6 0)]) (List.append (List.replicate 78 .lost) (List.append ([(.ptr 6 0), .lost, .lost, .lost, .lost, (.slice 7 0 9 9 13), .lost, .lost, .lost, .lost, (.slice 8 0 74 74 1), (i6' 74), (i6' 9)]) (List.replicate 16 .lost))),
 objsFrom 198 0 doorL ++ [ob2, (.cells (cex58 ++ (cex40 ++ (ce54))) false), (.cells (cex21 ++ (ce9 ++ (ce23))) false), (.cells [(.ptr 11 0)] false), (.cells [(.slice 12 0 128 128 1)] false), ob3, (.cells (cex29 ++ (cex1 ++ (ce1 ++ (ce2)))) false), (.cells (ce55 ++ ([(u3' 21), (u3' 0), (.int .u32 tm8), (u3' 0), (u3' 0), (u3' 0), (u3' 0), (u3' 0), (u3' 0), (u3' 0), (u3' 0), (u3' 0), (u3' 0)] ++ (ce4 ++ (ce5)))) false)],
 []⟩⟩
theorem ok4_21 : N4_21.ok = true := by kernel_rfl
def N4_22 : NT := ⟨2, [86, 29], ⟨List.append ([(i6' 25), (.int .u32 tm12), .lost, .lost, .lost, (bo' true), .lost, (.ptr 6 0)]) (List.append (List.replicate 78 .lost) (List.append ([(.ptr 6 0), .lost, .lost, .lost, .lost, (.slice 7 0 9 9 13), .lost, .lost, .lost, .lost, (.slice 8 0 77 77 1), (i6' 77), (i6' 9)]) (List.replicate 16 .lost))),
 objsFrom 198 0 doorL ++ [ob2, (.cells (cex59 ++ (cex40 ++ (ce54))) false), (.cells (cex21 ++ (ce9 ++ (ce25))) false), (.cells [(.ptr 11 0)] false), (.cells [(.slice 12 0 128 128 1)] false), ob3, (.cells (cex30 ++ (cex1 ++ (ce1 ++ (ce2)))) false), (.cells (ce55 ++ ([(u3' 22), (u3' 0), (.int .u32 tm8), (u3' 0), (u3' 0), (u3' 0), (u3' 0), (u3' 0), (u3' 0), (u3' 0), (u3' 0), (u3' 0), (u3' 0)] ++ (ce4 ++ (ce5)))) false)],
 []⟩⟩
theorem ok4_22 : N4_22.ok = true := by kernel_rfl
def N4_23 : NT := ⟨2, [86, 29], ⟨List.append ([(i6' 26), (.int .u32 tm12), .lost, .lost, .lost, (bo' true), .lost, (.ptr 6 0)]) (List.append (List.replicate 78 .lost) (List.append ([(.ptr 6 0), .lost, .lost, .lost, .lost, (.slice 7 0 9 9 13), .lost, .lost, .lost, .lost, (.slice 8 0 80 80 1), (i6' 80), (i6' 9)]) (List.replicate 16 .lost))),
 objsFrom 198 0 doorL ++ [ob2, (.cells (cex60 ++ (cex40 ++ (ce54))) false), (.cells (cex21 ++ (ce9 ++ (ce9 ++ (ce27)))) false), (.cells [(.ptr 11 0)] false), (.cells [(.slice 12 0 128 128 1)] false), ob3, (.cells (cex31 ++ (cex1 ++ (ce1 ++ (ce2)))) false), (.cells (ce55 ++ ([(u3' 23), (u3' 0), (.int .u32 tm8), (u3' 0), (u3' 0), (u3' 0), (u3' 0), (u3' 0), (u3' 0), (u3' 0), (u3' 0), (u3' 0), (u3' 0)] ++ (ce4 ++ (ce5)))) false)],
 []⟩⟩
theorem ok4_23 : N4_23.ok = true := by kernel_rfl
def N4_24 : NT := ⟨2, [86, 29], ⟨List.append ([(i6' 27), (.int .u32 tm12), .lost, .lost, .lost, (bo' true), .lost, (.ptr 6 0)]) (List.append (List.replicate 78 .lost) (List.append ([(.ptr 6 0), .lost, .lost, .lost, .lost, (.slice 7 0 9 9 13), .lost, .lost, .lost, .lost, (.slice 8 0 83 83 1), (i6' 83), (i6' 9)]) (List.replicate 16 .lost))),
 objsFrom 198 0 doorL ++ [ob2, (.cells (cex61 ++ (cex40 ++ (ce54))) false), (.cells (cex21 ++ (ce9 ++ (ce9 ++ (ce29)))) false), (.cells [(.ptr 11 0)] false), (.cells [(.slice 12 0 128 128 1)] false), ob3, (.cells (cex32 ++ (cex1 ++ (ce1 ++ (ce2)))) false), (.cells (ce55 ++ ([(u3' 24), (u3' 0), (.int .u32 tm8), (u3' 0), (u3' 0), (u3' 0), (u3' 0), (u3' 0), (u3' 0), (u3' 0), (u3' 0), (u3' 0), (u3' 0)] ++ (ce4 ++ (ce5)))) false)],
 []⟩⟩
theorem ok4_24 : N4_24.ok = true := by kernel_rfl
def N4_25 : NT := ⟨2, [86, 29], ⟨List.append ([(i6' 28), (.int .u32 tm12), .lost, .lost, .lost, (bo' true), .lost, (.ptr 6 0)]) (List.append (List.replicate 78 .lost) (List.append ([(.ptr 6 0), .lost, .lost, .lost, .lost, (.slice 7 0 9 9 13), .lost, .lost, .lost, .lost, (.slice 8 0 86 86 1), (i6' 86), (i6' 9)]) (List.replicate 16 .lost))),
 objsFrom 198 0 doorL ++ [ob2, (.cells (cex62 ++ (cex40 ++ (ce54))) false), (.cells (cex21 ++ (ce9 ++ (ce9 ++ (ce6)))) false), (.cells [(.ptr 11 0)] false), (.cells [(.slice 12 0 128 128 1)] false), ob3, (.cells (cex33 ++ (cex1 ++ (ce1 ++ (ce2)))) false), (.cells (ce55 ++ ([(u3' 25), (u3' 0), (.int .u32 tm8), (u3' 0), (u3' 0), (u3' 0), (u3' 0), (u3' 0), (u3' 0), (u3' 0), (u3' 0), (u3' 0), (u3' 0)] ++ (ce4 ++ (ce5)))) false)],
 []⟩⟩
theorem ok4_25 : N4_25.ok = true := by kernel_rfl
def N4_26 : NT := ⟨2, [86, 29], ⟨List.append ([(i6' 29), (.int .u32 tm12), .lost, .lost, .lost, (bo' true), .lost, (.ptr 6 0)]) (List.append (List.replicate 78 .lost) (List.append ([(.ptr 6 0), .lost, .lost, .lost, .lost, (.slice 7 0 9 9 13), .lost, .lost, .lost, .lost, (.slice 8 0 89 89 1), (i6' 89), (i6' 9)]) (List.replicate 16 .lost))),
 objsFrom 198 0 doorL ++ [ob2, (.cells (cex63 ++ (cex40 ++ (ce54))) false), (.cells (cex21 ++ (ce9 ++ (ce9 ++ (ce7)))) false), (.cells [(.ptr 11 0)] false), (.cells [(.slice 12 0 128 128 1)] false), ob3, (.cells (cex34 ++ (cex1 ++ (ce1 ++ (ce2)))) false), (.cells (ce55 ++ ([(u3' 26), (u3' 0), (.int .u32 tm8), (u3' 0), (u3' 0), (u3' 0), (u3' 0), (u3' 0), (u3' 0), (u3' 0), (u3' 0), (u3' 0), (u3' 0)] ++ (ce4 ++ (ce5)))) false)],
 []⟩⟩
theorem ok4_26 : N4_26.ok = true := by kernel_rfl
def N4_27 : NT := ⟨2, [86, 29], ⟨List.append ([(i6' 30), (.int .u32 tm12), .lost, .lost, .lost, (bo' true), .lost, (.ptr 6 0)]) (List.append (List.replicate 78 .lost) (List.append ([(.ptr 6 0), .lost, .lost, .lost, .lost, (.slice 7 0 9 9 13), .lost, .lost, .lost, .lost, (.slice 8 0 92 92 1), (i6' 92), (i6' 9)]) (List.replicate 16 .lost))),
 objsFrom 198 0 doorL ++ [ob2, (.cells (cex64 ++ (cex40 ++ (ce54))) false), (.cells (cex21 ++ (cex35)) false), (.cells [(.ptr 11 0)] false), (.cells [(.slice 12 0 128 128 1)] false), ob3, (.cells (cex36 ++ (cex1 ++ (ce1 ++ (ce2)))) false), (.cells (ce55 ++ ([(u3' 27), (u3' 0), (.int .u32 tm8), (u3' 0), (u3' 0), (u3' 0), (u3' 0), (u3' 0), (u3' 0), (u3' 0), (u3' 0), (u3' 0), (u3' 0)] ++ (ce4 ++ (ce5)))) false)],
 []⟩⟩
theorem ok4_27 : N4_27.ok = true := by kernel_rfl
def N5_0 : NT := ⟨2, [86, 29], ⟨List.append ([(i6' 6), (.int .u32 tm12), .lost, .lost, .lost, (bo' true), .lost, (.ptr 6 0)]) (List.append (List.replicate 78 .lost) (List.append ([(.ptr 6 0), .lost, .lost, .lost, .lost, (.slice 7 0 18 18 13), .lost, .lost, .lost, .lost, (.slice 8 0 20 20 1), (i6' 20), (i6' 18)]) (List.replicate 16 .lost))),
 objsFrom 198 0 doorL ++ [ob4, (.cells (cex39 ++ (cex40 ++ (cex65 ++ (cex66 ++ (ce88 ++ (ce89)))))) false), (.cells (ce9 ++ (ce14)) false), (.cells [(.ptr 11 0)] false), (.cells [(.slice 12 0 128 128 1)] false), ob3, (.cells (cex6 ++ (cex1 ++ (ce1 ++ (ce2)))) false), (.cells (ce55 ++ ([(u3' 0), (u3' 0), (.int .u32 tm9), (u3' 0), (u3' 0), (u3' 0), (u3' 0), (u3' 0), (u3' 0), (u3' 0), (u3' 0), (u3' 0), (u3' 0)] ++ (ce4 ++ (ce5)))) false)],
 []⟩⟩
theorem ok5_0 : N5_0.ok = true := by kernel_rfl
def N5_1 : NT := ⟨2, [86, 29], ⟨List.append ([(i6' 7), (.int .u32 tm12), .lost, .lost, .lost, (bo' true), .lost, (.ptr 6 0)]) (List.append (List.replicate 78 .lost) (List.append ([(.ptr 6 0), .lost, .lost, .lost, .lost, (.slice 7 0 18 18 13), .lost, .lost, .lost, .lost, (.slice 8 0 23 23 1), (i6' 23), (i6' 18)]) (List.replicate 16 .lost))),
 objsFrom 198 0 doorL ++ [ob4, (.cells (cex41 ++ (cex40 ++ (cex65 ++ (cex66 ++ (ce88 ++ (ce89)))))) false), (.cells (ce9 ++ (ce16)) false), (.cells [(.ptr 11 0)] false), (.cells [(.slice 12 0 128 128 1)] false), ob3, (.cells (cex7 ++ (cex1 ++ (ce1 ++ (ce2)))) false), (.cells (ce55 ++ ([(u3' 1), (u3' 0), (.int .u32 tm9), (u3' 0), (u3' 0), (u3' 0), (u3' 0), (u3' 0), (u3' 0), (u3' 0), (u3' 0), (u3' 0), (u3' 0)] ++ (ce4 ++ (ce5)))) false)],
 []⟩⟩
theorem ok5_1 : N5_1.ok = true := by kernel_rfl
def N5_2 : NT := ⟨2, [86, 29], ⟨List.append ([(i6' 8), (.int .u32 tm12), .lost, .lost, .lost, (bo' true), .lost, (.ptr 6 0)]) (List.append (List.replicate 78 .lost) (List.append ([(.ptr 6 0), .lost, .lost, .lost, .lost, (.slice 7 0 18 18 13), .lost, .lost, .lost, .lost, (.slice 8 0 26 26 1), (i6' 26), (i6' 18)]) (List.replicate 16 .lost))),
 objsFrom 198 0 doorL ++ [ob4, (.cells (cex42 ++ (cex40 ++ (cex65 ++ (cex66 ++ (ce88 ++ (ce89)))))) false), (.cells (ce9 ++ (ce9)) false), (.cells [(.ptr 11 0)] false), (.cells [(.slice 12 0 128 128 1)] false), ob3, (.cells (cex8 ++ (cex1 ++ (ce1 ++ (ce2)))) false), (.cells (ce55 ++ ([(u3' 2), (u3' 0), (.int .u32 tm9), (u3' 0), (u3' 0), (u3' 0), (u3' 0), (u3' 0), (u3' 0), (u3' 0), (u3' 0), (u3' 0), (u3' 0)] ++ (ce4 ++ (ce5)))) false)],
 []⟩⟩
theorem ok5_2 : N5_2.ok = true := by kernel_rfl
def N5_3 : NT := ⟨2, [86, 29], ⟨List.append ([(i6' 9), (.int .u32 tm12), .lost, .lost, .lost, (bo' true), .lost, (.ptr 6 0)]) (List.append (List.replicate 78 .lost) (List.append ([(.ptr 6 0), .lost, .lost, .lost, .lost, (.slice 7 0 18 18 13), .lost, .lost, .lost, .lost, (.slice 8 0 29 29 1), (i6' 29), (i6' 18)]) (List.replicate 16 .lost))),
 objsFrom 198 0 doorL ++ [ob4, (.cells (cex43 ++ (cex40 ++ (cex65 ++ (cex66 ++ (ce88 ++ (ce89)))))) false), (.cells (ce9 ++ (ce9 ++ (ce19))) false), (.cells [(.ptr 11 0)] false), (.cells [(.slice 12 0 128 128 1)] false), ob3, (.cells (cex9 ++ (cex1 ++ (ce1 ++ (ce2)))) false), (.cells (ce55 ++ ([(u3' 3), (u3' 0), (.int .u32 tm9), (u3' 0), (u3' 0), (u3' 0), (u3' 0), (u3' 0), (u3' 0), (u3' 0), (u3' 0), (u3' 0), (u3' 0)] ++ (ce4 ++ (ce5)))) false)],
 []⟩⟩
theorem ok5_3 : N5_3.ok = true := by kernel_rfl
def N5_4 : NT := ⟨2, [86, 29], ⟨List.append ([(i6' 10), (.int .u32 tm12), .lost, .lost, .lost, (bo' true), .lost, (.ptr 6 0)]) (List.append (List.replicate 78 .lost) (List.append ([(.ptr 6 0), .lost, .lost, .lost, .lost, (.slice 7 0 18 18 13), .lost, .lost, .lost, .lost, (.slice 8 0 32 32 1), (i6' 32), (i6' 18)]) (List.replicate 16 .lost))),
 objsFrom 198 0 doorL ++ [ob4, (.cells (cex44 ++ (cex40 ++ (cex65 ++ (cex66 ++ (ce88 ++ (ce89)))))) false), (.cells (ce9 ++ (ce9 ++ (ce21))) false), (.cells [(.ptr 11 0)] false), (.cells [(.slice 12 0 128 128 1)] false), ob3, (.cells (cex10 ++ (cex1 ++ (ce1 ++ (ce2)))) false), (.cells (ce55 ++ ([(u3' 4), (u3' 0), (.int .u32 tm9), (u3' 0), (u3' 0), (u3' 0), (u3' 0), (u3' 0), (u3' 0), (u3' 0), (u3' 0), (u3' 0), (u3' 0)] ++ (ce4 ++ (ce5)))) false)],
 []⟩⟩
theorem ok5_4 : N5_4.ok = true := by kernel_rfl
def N5_5 : NT := ⟨2, [86, 29], ⟨List.append ([(i6' 11), (.int .u32 tm12), .lost, .lost, .lost, (bo' true), .lost, (.ptr 6 0)]) (List.append (List.replicate 78 .lost) (List.append ([(.ptr 6 0), .lost, .lost, .lost, .lost, (.slice 7 0 18 18 13), .lost, .lost, .lost, .lost, (.slice 8 0 35 35 1), (i6' 35), (i6' 18)]) (List.replicate 16 .lost))),
 objsFrom 198 0 doorL ++ [ob4, (.cells (cex45 ++ (cex40 ++ (cex65 ++ (cex66 ++ (ce88 ++ (ce89)))))) false), (.cells (ce9 ++ (ce9 ++ (ce23))) false), (.cells [(.ptr 11 0)] false), (.cells [(.slice 12 0 128 128 1)] false), ob3, (.cells (cex11 ++ (cex1 ++ (ce1 ++ (ce2)))) false), (.cells (ce55 ++ ([(u3' 5), (u3' 0), (.int .u32 tm9), (u3' 0), (u3' 0), (u3' 0), (u3' 0), (u3' 0), (u3' 0), (u3' 0), (u3' 0), (u3' 0), (u3' 0)] ++ (ce4 ++ (ce5)))) false)],
 []⟩⟩
theorem ok5_5 : N5_5.ok = true := by kernel_rfl
def N5_6 : NT := ⟨2, [86, 29], ⟨List.append ([(i6' 12), (.int .u32 tm12), .lost, .lost, .lost, (bo' true), .lost, (.ptr 6 0)]) (List.append (List.replicate 78 .lost) (List.append ([(.ptr 6 0), .lost, .lost, .lost, .lost, (.slice 7 0 18 18 13), .lost, .lost, .lost, .lost, (.slice 8 0 38 38 1), (i6' 38), (i6' 18)]) (List.replicate 16 .lost))),
 objsFrom 198 0 doorL ++ [ob4, (.cells (cex46 ++ (cex40 ++ (cex65 ++ (cex66 ++ (ce88 ++ (ce89)))))) false), (.cells (ce9 ++ (ce9 ++ (ce25))) false), (.cells [(.ptr 11 0)] false), (.cells [(.slice 12 0 128 128 1)] false), ob3, (.cells (cex12 ++ (cex1 ++ (ce1 ++ (ce2)))) false), (.cells (ce55 ++ ([(u3' 6), (u3' 0), (.int .u32 tm9), (u3' 0), (u3' 0), (u3' 0), (u3' 0), (u3' 0), (u3' 0), (u3' 0), (u3' 0), (u3' 0), (u3' 0)] ++ (ce4 ++ (ce5)))) false)],
 []⟩⟩
theorem ok5_6 : N5_6.ok = true := by kernel_rfl
def N5_7 : NT := ⟨2, [86, 29], ⟨List.append ([(i6' 13), (.int .u32 tm12), .lost, .lost, .lost, (bo' true), .lost, (.ptr 6 0)]) (List.append (List.replicate 78 .lost) (List.append ([(.ptr 6 0), .lost, .lost, .lost, .lost, (.slice 7 0 18 18 13), .lost, .lost, .lost, .lost, (.slice 8 0 41 41 1), (i6' 41), (i6' 18)]) (List.replicate 16 .lost))),
 objsFrom 198 0 doorL ++ [ob4, (.cells (cex47 ++ (cex40 ++ (cex65 ++ (cex66 ++ (ce88 ++ (ce89)))))) false), (.cells cex13 false), (.cells [(.ptr 11 0)] false), (.cells [(.slice 12 0 128 128 1)] false), ob3, (.cells (cex14 ++ (cex1 ++ (ce1 ++ (ce2)))) false), (.cells (ce55 ++ ([(u3' 7), (u3' 0), (.int .u32 tm9), (u3' 0), (u3' 0), (u3' 0), (u3' 0), (u3' 0), (u3' 0), (u3' 0), (u3' 0), (u3' 0), (u3' 0)] ++ (ce4 ++ (ce5)))) false)],
 []⟩⟩
theorem ok5_7 : N5_7.ok = true := by kernel_rfl
def N5_8 : NT := ⟨2, [86, 29], ⟨List.append ([(i6' 14), (.int .u32 tm12), .lost, .lost, .lost, (bo' true), .lost, (.ptr 6 0)]) (List.append (List.replicate 78 .lost) (List.append ([(.ptr 6 0), .lost, .lost, .lost, .lost, (.slice 7 0 18 18 13), .lost, .lost, .lost, .lost, (.slice 8 0 44 44 1), (i6' 44), (i6' 18)]) (List.replicate 16 .lost))),
 objsFrom 198 0 doorL ++ [ob4, (.cells (cex48 ++ (cex40 ++ (cex65 ++ (cex66 ++ (ce88 ++ (ce89)))))) false), (.cells cex15 false), (.cells [(.ptr 11 0)] false), (.cells [(.slice 12 0 128 128 1)] false), ob3, (.cells (cex16 ++ (cex1 ++ (ce1 ++ (ce2)))) false), (.cells (ce55 ++ ([(u3' 8), (u3' 0), (.int .u32 tm9), (u3' 0), (u3' 0), (u3' 0), (u3' 0), (u3' 0), (u3' 0), (u3' 0), (u3' 0), (u3' 0), (u3' 0)] ++ (ce4 ++ (ce5)))) false)],
 []⟩⟩
theorem ok5_8 : N5_8.ok = true := by kernel_rfl
def N5_9 : NT := ⟨2, [86, 29], ⟨List.append ([(i6' 15), (.int .u32 tm12), .lost, .lost, .lost, (bo' true), .lost, (.ptr 6 0)]) (List.append (List.replicate 78 .lost) (List.append ([(.ptr 6 0), .lost, .lost, .lost, .lost, (.slice 7 0 18 18 13), .lost, .lost, .lost, .lost, (.slice 8 0 47 47 1), (i6' 47), (i6' 18)]) (List.replicate 16 .lost))),
 objsFrom 198 0 doorL ++ [ob4, (.cells (cex49 ++ (cex40 ++ (cex65 ++ (cex66 ++ (ce88 ++ (ce89)))))) false), (.cells cex17 false), (.cells [(.ptr 11 0)] false), (.cells [(.slice 12 0 128 128 1)] false), ob3, (.cells (cex18 ++ (cex1 ++ (ce1 ++ (ce2)))) false), (.cells (ce55 ++ ([(u3' 9), (u3' 0), (.int .u32 tm9), (u3' 0), (u3' 0), (u3' 0), (u3' 0), (u3' 0), (u3' 0), (u3' 0), (u3' 0), (u3' 0), (u3' 0)] ++ (ce4 ++ (ce5)))) false)],
 []⟩⟩
theorem ok5_9 : N5_9.ok = true := by kernel_rfl
def N5_10 : NT := ⟨2, [86, 29], ⟨List.append ([(i6' 16), (.int .u32 tm12), .lost, .lost, .lost, (bo' true), .lost, (.ptr 6 0)]) (List.append (List.replicate 78 .lost) (List.append ([(.ptr 6 0), .lost, .lost, .lost, .lost, (.slice 7 0 18 18 13), .lost, .lost, .lost, .lost, (.slice 8 0 50 50 1), (i6' 50), (i6' 18)]) (List.replicate 16 .lost))),
 objsFrom 198 0 doorL ++ [ob4, (.cells (cex50 ++ (cex40 ++ (cex65 ++ (cex66 ++ (ce88 ++ (ce89)))))) false), (.cells cex19 false), (.cells [(.ptr 11 0)] false), (.cells [(.slice 12 0 128 128 1)] false), ob3, (.cells (cex20 ++ (cex1 ++ (ce1 ++ (ce2)))) false), (.cells (ce55 ++ ([(u3' 10), (u3' 0), (.int .u32 tm9), (u3' 0), (u3' 0), (u3' 0), (u3' 0), (u3' 0), (u3' 0), (u3' 0), (u3' 0), (u3' 0), (u3' 0)] ++ (ce4 ++ (ce5)))) false)],
 []⟩⟩
theorem ok5_10 : N5_10.ok = true := by kernel_rfl
def N5_11 : NT := ⟨2, [86, 29], ⟨List.append ([(i6' 17), (.int .u32 tm12), .lost, .lost, .lost, (bo' true), .lost, (.ptr 6 0)]) (List.append (List.replicate 78 .lost) (List.append ([(.ptr 6 0), .lost, .lost, .lost, .lost, (.slice 7 0 18 18 13), .lost, .lost, .lost, .lost, (.slice 8 0 53 53 1), (i6' 53), (i6' 18)]) (List.replicate 16 .lost))),
 objsFrom 198 0 doorL ++ [ob4, (.cells (cex51 ++ (cex40 ++ (cex65 ++ (cex66 ++ (ce88 ++ (ce89)))))) false), (.cells (cex21 ++ (ce10)) false), (.cells [(.ptr 11 0)] false), (.cells [(.slice 12 0 128 128 1)] false), ob3, (.cells (cex22 ++ (cex1 ++ (ce1 ++ (ce2)))) false), (.cells (ce55 ++ ([(u3' 11), (u3' 0), (.int .u32 tm9), (u3' 0), (u3' 0), (u3' 0), (u3' 0), (u3' 0), (u3' 0), (u3' 0), (u3' 0), (u3' 0), (u3' 0)] ++ (ce4 ++ (ce5)))) false)],
 []⟩⟩
theorem ok5_11 : N5_11.ok = true := by kernel_rfl
def N5_12 : NT := ⟨2, [86, 29], ⟨List.append ([(i6' 18), (.int .u32 tm12), .lost, .lost, .lost, (bo' true), .lost, (.ptr 6 0)]) (List.append (List.replicate 78 .lost) (List.append ([(.ptr 6 0), .lost, .lost, .lost, .lost, (.slice 7 0 18 18 13), .lost, .lost, .lost, .lost, (.slice 8 0 56 56 1), (i6' 56), (i6' 18)]) (List.replicate 16 .lost))),
 objsFrom 198 0 doorL ++ [ob4, (.cells (cex52 ++ (cex40 ++ (cex65 ++ (cex66 ++ (ce88 ++ (ce89)))))) false), (.cells (cex21 ++ (ce12)) false), (.cells [(.ptr 11 0)] false), (.cells [(.slice 12 0 128 128 1)] false), ob3, (.cells (cex23 ++ (cex1 ++ (ce1 ++ (ce2)))) false), (.cells (ce55 ++ ([(u3' 12), (u3' 0), (.int .u32 tm9), (u3' 0), (u3' 0), (u3' 0), (u3' 0), (u3' 0), (u3' 0), (u3' 0), (u3' 0), (u3' 0), (u3' 0)] ++ (ce4 ++ (ce5)))) false)],
 []⟩⟩
theorem ok5_12 : N5_12.ok = true := by kernel_rfl
def N5_13 : NT := ⟨2, [86, 29], ⟨List.append ([(i6' 19), (.int .u32 tm12), .lost, .lost, .lost, (bo' true), .lost, (.ptr 6 0)]) (List.append (List.replicate 78 .lost) (List.append ([(.ptr 6 0), .lost, .lost, .lost, .lost, (.slice 7 0 18 18 13), .lost, .lost, .lost, .lost, (.slice 8 0 59 59 1), (i6' 59), (i6' 18)]) (List.replicate 16 .lost))),
 objsFrom 198 0 doorL ++ [ob4, (.cells (cex53 ++ (cex40 ++ (cex65 ++ (cex66 ++ (ce88 ++ (ce89)))))) false), (.cells (cex21 ++ (ce14)) false), (.cells [(.ptr 11 0)] false), (.cells [(.slice 12 0 128 128 1)] false), ob3, (.cells (cex24 ++ (cex1 ++ (ce1 ++ (ce2)))) false), (.cells (ce55 ++ ([(u3' 13), (u3' 0), (.int .u32 tm9), (u3' 0), (u3' 0), (u3' 0), (u3' 0), (u3' 0), (u3' 0), (u3' 0), (u3' 0), (u3' 0), (u3' 0)] ++ (ce4 ++ (ce5)))) false)],
 []⟩⟩
theorem ok5_13 : N5_13.ok = true := by kernel_rfl
def N5_14 : NT := ⟨2, [86, 29], ⟨List.append ([(i6' 20), (.int .u32 tm12), .lost, .lost, .lost, (bo' true), .lost, (.ptr 6 0)]) (List.append (List.replicate 78 .lost) (List.append ([(.ptr 6 0), .lost, .lost, .lost, .lost, (.slice 7 0 18 18 13), .lost, .lost, .lost, .lost, (.slice 8 0 62 62 1), (i6' 62), (i6' 18)]) (List.replicate 16 .lost))),
 objsFrom 198 0 doorL ++ [ob4, (.cells (cex54 ++ (cex40 ++ (cex65 ++ (cex66 ++ (ce88 ++ (ce89)))))) false), (.cells (cex21 ++ (ce16)) false), (.cells [(.ptr 11 0)] false), (.cells [(.slice 12 0 128 128 1)] false), ob3, (.cells (cex25 ++ (cex1 ++ (ce1 ++ (ce2)))) false), (.cells (ce55 ++ ([(u3' 14), (u3' 0), (.int .u32 tm9), (u3' 0), (u3' 0), (u3' 0), (u3' 0), (u3' 0), (u3' 0), (u3' 0), (u3' 0), (u3' 0), (u3' 0)] ++ (ce4 ++ (ce5)))) false)],
 []⟩⟩
theorem ok5_14 : N5_14.ok = true := by kernel_rfl
def N5_15 : NT := ⟨2, [86, 29], ⟨List.append ([(i6' 21), (.int .u32 tm12), .lost, .lost, .lost, (bo' true), .lost, (.ptr 6 0)]) (List.append (List.replicate 78 .lost) (List.append ([(.ptr 6 0), .lost, .lost, .lost, .lost, (.slice 7 0 18 18 13), .lost, .lost, .lost, .lost, (.slice 8 0 65 65 1), (i6' 65), (i6' 18)]) (List.replicate 16 .lost))),
 objsFrom 198 0 doorL ++ [ob4, (.cells (cex55 ++ (cex40 ++ (cex65 ++ (cex66 ++ (ce88 ++ (ce89)))))) false), (.cells (cex21 ++ (ce9)) false), (.cells [(.ptr 11 0)] false), (.cells [(.slice 12 0 128 128 1)] false), ob3, (.cells (cex26 ++ (cex1 ++ (ce1 ++ (ce2)))) false), (.cells (ce55 ++ ([(u3' 15), (u3' 0), (.int .u32 tm9), (u3' 0), (u3' 0), (u3' 0), (u3' 0), (u3' 0), (u3' 0), (u3' 0), (u3' 0), (u3' 0), (u3' 0)] ++ (ce4 ++ (ce5)))) false)],
 []⟩⟩
theorem ok5_15 : N5_15.ok = true := by kernel_rfl
def N5_16 : NT := ⟨2, [86, 29], ⟨List.append ([(i6' 22), (.int .u32 tm12), .lost, .lost, .lost, (bo' true), .lost, (.ptr 6 0)]) (List.append (List.replicate 78 .lost) (List.append ([(.ptr 6 0), .lost, .lost, .lost, .lost, (.slice 7 0 18 18 13), .lost, .lost, .lost, .lost, (.slice 8 0 68 68 1), (i6' 68), (i6' 18)]) (List.replicate 16 .lost))),
 objsFrom 198 0 doorL ++ [ob4, (.cells (cex56 ++ (cex40 ++ (cex65 ++ (cex66 ++ (ce88 ++ (ce89)))))) false), (.cells (cex21 ++ (ce9 ++ (ce19))) false), (.cells [(.ptr 11 0)] false), (.cells [(.slice 12 0 128 128 1)] false), ob3, (.cells (cex27 ++ (cex1 ++ (ce1 ++ (ce2)))) false), (.cells (ce55 ++ ([(u3' 16), (u3' 0), (.int .u32 tm9), (u3' 0), (u3' 0), (u3' 0), (u3' 0), (u3' 0), (u3' 0), (u3' 0), (u3' 0), (u3' 0), (u3' 0)] ++ (ce4 ++ (ce5)))) false)],
 []⟩⟩
theorem ok5_16 : N5_16.ok = true := by kernel_rfl
def N5_17 : NT := ⟨2, [86, 29], ⟨List.append ([(i6' 23), (.int .u32 tm12), .lost, .lost, .lost, (bo' true), .lost, (.ptr 6 0)]) (List.append (List.replicate 78 .lost) (List.append ([(.ptr 6 0), .lost, .lost, .lost, .lost, (.slice 7 0 18 18 13), .lost, .lost, .lost, .lost, (.slice 8 0 71 71 1), (i6' 71), (i6' 18)]) (List.replicate 16 .lost))),
 objsFrom 198 0 doorL ++ [ob4, (.cells (cex57 ++ (cex40 ++ (cex65 ++ (cex66 ++ (ce88 ++ (ce89)))))) false), (.cells (cex21 ++ (ce9 ++ (ce21))) false), (.cells [(.ptr 11 0)] false), (.cells [(.slice 12 0 128 128 1)] false), ob3, (.cells (cex28 ++ (cex1 ++ (ce1 ++ (ce2)))) false), (.cells (ce55 ++ ([(u3' 17), (u3' 0), (.int .u32 tm9), (u3' 0), (u3' 0), (u3' 0), (u3' 0), (u3' 0), (u3' 0), (u3' 0), (u3' 0), (u3' 0), (u3' 0)] ++ (ce4 ++ (ce5)))) false)],
 []⟩⟩
theorem ok5_17 : N5_17.ok = true := by kernel_rfl
def N5_18 : NT := ⟨2, [86, 29], ⟨List.append ([(i6' 24), (.int .u32 tm12), .lost, .lost, .lost, (bo' true), .lost, (.ptr 6 0)]) (List.append (List.replicate 78 .lost) (List.append ([(.ptr 6 0), .lost, .lost, .lost, .lost, (.slice 7 0 18 18 13), .lost, .lost, .lost, .lost, (.slice 8 0 74 74 1), (i6' 74), (i6' 18)]) (List.replicate 16 .lost))),
 objsFrom 198 0 doorL ++ [ob4, (.cells (cex58 ++ (cex40 ++ (cex65 ++ (cex66 ++ (ce88 ++ (ce89)))))) false), (.cells (cex21 ++ (ce9 ++ (ce23))) false), (.cells [(.ptr 11 0)] false), (.cells [(.slice 12 0 128 128 1)] false), ob3, (.cells (cex29 ++ (cex1 ++ (ce1 ++ (ce2)))) false), (.cells (ce55 ++ ([(u3' 18), (u3' 0), (.int .u32 tm9), (u3' 0), (u3' 0), (u3' 0), (u3' 0), (u3' 0), (u3' 0), (u3' 0), (u3' 0), (u3' 0), (u3' 0)] ++ (ce4 ++ (ce5)))) false)],
 []⟩⟩
theorem ok5_18 : N5_18.ok = true := by kernel_rfl
def N5_19 : NT := ⟨2, [86, 29], ⟨List.append ([(i6' 25), (.int .u32 tm12), .lost, .lost, .lost, (bo' true), .lost, (.ptr 6 0)]) (List.append (List.replicate 78 .lost) (List.append ([(.ptr 6 0), .lost, .lost, .lost, .lost, (.slice 7 0 18 18 13), .lost, .lost, .lost, .lost, (.slice 8 0 77 77 1), (i6' 77), (i6' 18)]) (List.replicate 16 .lost))),
 objsFrom 198 0 doorL ++ [ob4, (.cells (cex59 ++ (cex40 ++ (cex65 ++ (cex66 ++ (ce88 ++ (ce89)))))) false), (.cells (cex21 ++ (ce9 ++ (ce25))) false), (.cells [(.ptr 11 0)] false), (.cells [(.slice 12 0 128 128 1)] false), ob3, (.cells (cex30 ++ (cex1 ++ (ce1 ++ (ce2)))) false), (.cells (ce55 ++ ([(u3' 19), (u3' 0), (.int .u32 tm9), (u3' 0), (u3' 0), (u3' 0), (u3' 0), (u3' 0), (u3' 0), (u3' 0), (u3' 0), (u3' 0), (u3' 0)] ++ (ce4 ++ (ce5)))) false)],
 []⟩⟩
theorem ok5_19 : N5_19.ok = true := by kernel_rfl
def N5_20 : NT := ⟨2, [86, 29], ⟨List.append ([(i6' 26), (.int .u32 tm12), .lost, .lost, .lost, (bo' true), .lost, (.ptr 6 0)]) (List.append (List.replicate 78 .lost) (List.append ([(.ptr 6 0), .lost, .lost, .lost, .lost, (.slice 7 0 18 18 13), .lost, .lost, .lost, .lost, (.slice 8 0 80 80 1), (i6' 80), (i6' 18)]) (List.replicate 16 .lost))),
 objsFrom 198 0 doorL ++ [ob4, (.cells (cex60 ++ (cex40 ++ (cex65 ++ (cex66 ++ (ce88 ++ (ce89)))))) false), (.cells (cex21 ++ (ce9 ++ (ce9 ++ (ce27)))) false), (.cells [(.ptr 11 0)] false), (.cells [(.slice 12 0 128 128 1)] false), ob3, (.cells (cex31 ++ (cex1 ++ (ce1 ++ (ce2)))) false), (.cells (ce55 ++ ([(u3' 20), (u3' 0), (.int .u32 tm9), (u3' 0), (u3' 0), (u3' 0), (u3' 0), (u3' 0), (u3' 0), (u3' 0), (u3' 0), (u3' 0), (u3' 0)] ++ (ce4 ++ (ce5)))) false)],
 []⟩⟩
theorem ok5_20 : N5_20.ok = true := by kernel_rfl
def N5_21 : NT := ⟨2, [86, 29], ⟨List.append ([(i6' 27), (.int .u32 tm12), .lost, .lost, .lost, (bo' true), .lost, (.ptr 6 0)]) (List.append (List.replicate 78 .lost) (List.append ([(.ptr 6 0), .lost, .lost, .lost, .lost, (.slice 7 0 18 18 13), .lost, .lost, .lost, .lost, (.slice 8 0 83 83 1), (i6' 83), (i6' 18)]) (List.replicate 16 .lost))),
 objsFrom 198 0 doorL ++ [ob4, (.cells (cex61 ++ (cex40 ++ (cex65 ++ (cex66 ++ (ce88 ++ (ce89)))))) false), (.cells (cex21 ++ (ce9 ++ (ce9 ++ (ce29)))) false), (.cells [(.ptr 11 0)] false), (.cells [(.slice 12 0 128 128 1)] false), ob3, (.cells (cex32 ++ (cex1 ++ (ce1 ++ (ce2)))) false), (.cells (ce55 ++ ([(u3' 21), (u3' 0), (.int .u32 tm9), (u3' 0), (u3' 0), (u3' 0), (u3' 0), (u3' 0), (u3' 0), (u3' 0), (u3' 0), (u3' 0), (u3' 0)] ++ (ce4 ++ (ce5)))) false)],
 []⟩⟩
theorem ok5_21 : N5_21.ok = true := by kernel_rfl
def N5_22 : NT := ⟨2, [86, 29], ⟨List.append ([(i6' 28), (.int .u32 tm12), .lost, .lost, .lost, (bo' true), .lost, (.ptr 6 0)]) (List.append (List.replicate 78 .lost) (List.append ([(.ptr 6 0), .lost, .lost, .lost, .lost, (.slice 7 0 18 18 13), .lost, .lost, .lost, .lost, (.slice 8 0 86 86 1), (i6' 86), (i6' 18)]) (List.replicate 16 .lost))),
 objsFrom 198 0 doorL ++ [ob4, (.cells (cex62 ++ (cex40 ++ (cex65 ++ (cex66 ++ (ce88 ++ (ce89)))))) false), (.cells (cex21 ++ (ce9 ++ (ce9 ++ (ce6)))) false), (.cells [(.ptr 11 0)] false), (.cells [(.slice 12 0 128 128 1)] false), ob3, (.cells (cex33 ++ (cex1 ++ (ce1 ++ (ce2)))) false), (.cells (ce55 ++ ([(u3' 22), (u3' 0), (.int .u32 tm9), (u3' 0), (u3' 0), (u3' 0), (u3' 0), (u3' 0), (u3' 0), (u3' 0), (u3' 0), (u3' 0), (u3' 0)] ++ (ce4 ++ (ce5)))) false)],
 []⟩⟩
theorem ok5_22 : N5_22.ok = true := by kernel_rfl
def N5_23 : NT := ⟨2, [86, 29], ⟨List.append ([(i6' 29), (.int .u32 tm12), .lost, .lost, .lost, (bo' true), .lost, (.ptr 6 0)]) (List.append (List.replicate 78 .lost) (List.append ([(.ptr 6 0), .lost, .lost, .lost, .lost, (.slice 7 0 18 18 13), .lost, .lost, .lost, .lost, (.slice 8 0 89 89 1), (i6' 89), (i6' 18)]) (List.replicate 16 .lost))),
 objsFrom 198 0 doorL ++ [ob4, (.cells (cex63 ++ (cex40 ++ (cex65 ++ (cex66 ++ (ce88 ++ (ce89)))))) false), (.cells (cex21 ++ (ce9 ++ (ce9 ++ (ce7)))) false), (.cells [(.ptr 11 0)] false), (.cells [(.slice 12 0 128 128 1)] false), ob3, (.cells (cex34 ++ (cex1 ++ (ce1 ++ (ce2)))) false), (.cells (ce55 ++ ([(u3' 23), (u3' 0), (.int .u32 tm9), (u3' 0), (u3' 0), (u3' 0), (u3' 0), (u3' 0), (u3' 0), (u3' 0), (u3' 0), (u3' 0), (u3' 0)] ++ (ce4 ++ (ce5)))) false)],
 []⟩⟩
theorem ok5_23 : N5_23.ok = true := by kernel_rfl
def N5_24 : NT := ⟨2, [86, 29], ⟨List.append ([(i6' 30), (.int .u32 tm12), .lost, .lost, .lost, (bo' true), .lost, (.ptr 6 0)]) (List.append (List.replicate 78 .lost) (List.append ([(.ptr 6 0), .lost, .lost, .lost, .lost, (.slice 7 0 18 18 13), .lost, .lost, .lost, .lost, (.slice 8 0 92 92 1), (i6' 92), (i6' 18)]) (List.replicate 16 .lost))),
 objsFrom 198 0 doorL ++ [ob4, (.cells (cex64 ++ (cex40 ++ (cex65 ++ (cex66 ++ (ce88 ++ (ce89)))))) false), (.cells (cex21 ++ (cex35)) false), (.cells [(.ptr 11 0)] false), (.cells [(.slice 12 0 128 128 1)] false), ob3, (.cells (cex36 ++ (cex1 ++ (ce1 ++ (ce2)))) false), (.cells (ce55 ++ ([(u3' 24), (u3' 0), (.int .u32 tm9), (u3' 0), (u3' 0), (u3' 0), (u3' 0), (u3' 0), (u3' 0), (u3' 0), (u3' 0), (u3' 0), (u3' 0)] ++ (ce4 ++ (ce5)))) false)],
 []⟩⟩
theorem ok5_24 : N5_24.ok = true := by kernel_rfl
def N6_0 : NT := ⟨2, [86, 29], ⟨List.append ([(i6' 9), (.int .u32 tm12), .lost, .lost, .lost, (bo' true), .lost, (.ptr 6 0)]) (List.append (List.replicate 78 .lost) (List.append ([(.ptr 6 0), .lost, .lost, .lost, .lost, (.slice 7 0 27 27 13), .lost, .lost, .lost, .lost, (.slice 8 0 29 29 1), (i6' 29), (i6' 27)]) (List.replicate 16 .lost))),
 objsFrom 198 0 doorL ++ [ob5, (.cells (cex43 ++ (cex40 ++ (cex65 ++ (cex66 ++ (cex67 ++ (cex68 ++ (ce96 ++ (ce97 ++ (ce98))))))))) false), (.cells (ce9 ++ (ce9 ++ (ce19))) false), (.cells [(.ptr 11 0)] false), (.cells [(.slice 12 0 128 128 1)] false), ob3, (.cells (cex9 ++ (cex1 ++ (ce1 ++ (ce2)))) false), (.cells (ce55 ++ ([(u3' 0), (u3' 0), (.int .u32 tm10), (u3' 0), (u3' 0), (u3' 0), (u3' 0), (u3' 0), (u3' 0), (u3' 0), (u3' 0), (u3' 0), (u3' 0)] ++ (ce4 ++ (ce5)))) false)],
 []⟩⟩
theorem ok6_0 : N6_0.ok = true := by kernel_rfl
def N6_1 : NT := ⟨2, [86, 29], ⟨List.append ([(i6' 10), (.int .u32 tm12), .lost, .lost, .lost, (bo' true), .lost, (.ptr 6 0)]) (List.append (List.replicate 78 .lost) (List.append ([(.ptr 6 0), .lost, .lost, .lost, .lost, (.slice 7 0 27 27 13), .lost, .lost, .lost, .lost, (.slice 8 0 32 32 1), (i6' 32), (i6' 27)]) (List.replicate 16 .lost))),
 objsFrom 198 0 doorL ++ [ob5, (.cells (cex44 ++ (cex40 ++ (cex65 ++ (cex66 ++ (cex67 ++ (cex68 ++ (ce96 ++ (ce97 ++ (ce98))))))))) false), (.cells (ce9 ++ (ce9 ++ (ce21))) false), (.cells [(.ptr 11 0)] false), (.cells [(.slice 12 0 128 128 1)] false), ob3, (.cells (cex10 ++ (cex1 ++ (ce1 ++ (ce2)))) false), (.cells (ce55 ++ ([(u3' 1), (u3' 0), (.int .u32 tm10), (u3' 0), (u3' 0), (u3' 0), (u3' 0), (u3' 0), (u3' 0), (u3' 0), (u3' 0), (u3' 0), (u3' 0)] ++ (ce4 ++ (ce5)))) false)],
 []⟩⟩
theorem ok6_1 : N6_1.ok = true := by kernel_rfl
def N6_2 : NT := ⟨2, [86, 29], ⟨List.append ([(i6' 11), (.int .u32 tm12), .lost, .lost, .lost, (bo' true), .lost, (.ptr 6 0)]) (List.append (List.replicate 78 .lost) (List.append ([(.ptr 6 0), .lost, .lost, .lost, .lost, (.slice 7 0 27 27 13), .lost, .lost, .lost, .lost, (.slice 8 0 35 35 1), (i6' 35), (i6' 27)]) (List.replicate 16 .lost))),
 objsFrom 198 0 doorL ++ [ob5, (.cells (cex45 ++ (cex40 ++ (cex65 ++ (cex66 ++ (cex67 ++ (cex68 ++ (ce96 ++ (ce97 ++ (ce98))))))))) false), (.cells (ce9 ++ (ce9 ++ (ce23))) false), (.cells [(.ptr 11 0)] false), (.cells [(.slice 12 0 128 128 1)] false), ob3, (.cells (cex11 ++ (cex1 ++ (ce1 ++ (ce2)))) false), (.cells (ce55 ++ ([(u3' 2), (u3' 0), (.int .u32 tm10), (u3' 0), (u3' 0), (u3' 0), (u3' 0), (u3' 0), (u3' 0), (u3' 0), (u3' 0), (u3' 0), (u3' 0)] ++ (ce4 ++ (ce5)))) false)],
 []⟩⟩
theorem ok6_2 : N6_2.ok = true := by kernel_rfl
def N6_3 : NT := ⟨2, [86, 29], ⟨List.append ([(i6' 12), (.int .u32 tm12), .lost, .lost, .lost, (bo' true), .lost, (.ptr 6 0)]) (List.append (List.replicate 78 .lost) (List.append ([(.ptr 6 0), .lost, .lost, .lost, .lost, (.slice 7 0 27 27 13), .lost, .lost, .lost, .lost, (.slice 8 0 38 38 1), (i6' 38), (i6' 27)]) (List.replicate 16 .lost))),
 objsFrom 198 0 doorL ++ [ob5, (.cells (cex46 ++ (cex40 ++ (cex65 ++ (cex66 ++ (cex67 ++ (cex68 ++ (ce96 ++ (ce97 ++ (ce98))))))))) false), (.cells (ce9 ++ (ce9 ++ (ce25))) false), (.cells [(.ptr 11 0)] false), (.cells [(.slice 12 0 128 128 1)] false), ob3, (.cells (cex12 ++ (cex1 ++ (ce1 ++ (ce2)))) false), (.cells (ce55 ++ ([(u3' 3), (u3' 0), (.int .u32 tm10), (u3' 0), (u3' 0), (u3' 0), (u3' 0), (u3' 0), (u3' 0), (u3' 0), (u3' 0), (u3' 0), (u3' 0)] ++ (ce4 ++ (ce5)))) false)],
 []⟩⟩
theorem ok6_3 : N6_3.ok = true := by kernel_rfl
def N6_4 : NT := ⟨2, [86, 29], ⟨List.append ([(i6' 13), (.int .u32 tm12), .lost, .lost, .lost, (bo' true), .lost, (.ptr 6 0)]) (List.append (List.replicate 78 .lost) (List.append ([(.ptr 6 0), .lost, .lost, .lost, .lost, (.slice 7 0 27 27 13), .lost, .lost, .lost, .lost, (.slice 8 0 41 41 1), (i6' 41), (i6' 27)]) (List.replicate 16 .lost))),
 objsFrom 198 0 doorL ++ [ob5, (.cells (cex47 ++ (cex40 ++ (cex65 ++ (cex66 ++ (cex67 ++ (cex68 ++ (ce96 ++ (ce97 ++ (ce98))))))))) false), (.cells cex13 false), (.cells [(.ptr 11 0)] false), (.cells [(.slice 12 0 128 128 1)] false), ob3, (.cells (cex14 ++ (cex1 ++ (ce1 ++ (ce2)))) false), (.cells (ce55 ++ ([(u3' 4), (u3' 0), (.int .u32 tm10), (u3' 0), (u3' 0), (u3' 0), (u3' 0), (u3' 0), (u3' 0), (u3' 0), (u3' 0), (u3' 0), (u3' 0)] ++ (ce4 ++ (ce5)))) false)],
 []⟩⟩
theorem ok6_4 : N6_4.ok = true := by kernel_rfl
def N6_5 : NT := ⟨2, [86, 29], ⟨List.append ([(i6' 14), (.int .u32 tm12), .lost, .lost, .lost, (bo' true), .lost, (.ptr 6 0)]) (List.append (List.replicate 78 .lost) (List.append ([(.ptr 6 0), .lost, .lost, .lost, .lost, (.slice 7 0 27 27 13), .lost, .lost, .lost, .lost, (.slice 8 0 44 44 1), (i6' 44), (i6' 27)]) (List.replicate 16 .lost))),
 objsFrom 198 0 doorL ++ [ob5, (.cells (cex48 ++ (cex40 ++ (cex65 ++ (cex66 ++ (cex67 ++ (cex68 ++ (ce96 ++ (ce97 ++ (ce98))))))))) false), (.cells cex15 false), (.cells [(.ptr 11 0)] false), (.cells [(.slice 12 0 128 128 1)] false), ob3, (.cells (cex16 ++ (cex1 ++ (ce1 ++ (ce2)))) false), (.cells (ce55 ++ ([(u3' 5), (u3' 0), (.int .u32 tm10), (u3' 0), (u3' 0), (u3' 0), (u3' 0), (u3' 0), (u3' 0), (u3' 0), (u3' 0), (u3' 0), (u3' 0)] ++ (ce4 ++ (ce5)))) false)],
 []⟩⟩
theorem ok6_5 : N6_5.ok = true := by kernel_rfl
def N6_6 : NT := ⟨2, [86, 29], ⟨List.append ([(i6' 15), (.int .u32 tm12), .lost, .lost, .lost, (bo' true), .lost, (.ptr 6 0)]) (List.append (List.replicate 78 .lost) (List.append ([(.ptr 6 0), .lost, .lost, .lost, .lost, (.slice 7 0 27 27 13), .lost, .lost, .lost, .lost, (.slice 8 0 47 47 1), (i6' 47), (i6' 27)]) (List.replicate 16 .lost))),
 objsFrom 198 0 doorL ++ [ob5, (.cells (cex49 ++ (cex40 ++ (cex65 ++ (cex66 ++ (cex67 ++ (cex68 ++ (ce96 ++ (ce97 ++ (ce98))))))))) false), (.cells cex17 false), (.cells [(.ptr 11 0)] false), (.cells [(.slice 12 0 128 128 1)] false), ob3, (.cells (cex18 ++ (cex1 ++ (ce1 ++ (ce2)))) false), (.cells (ce55 ++ ([(u3' 6), (u3' 0), (.int .u32 tm10), (u3' 0), (u3' 0), (u3' 0), (u3' 0), (u3' 0), (u3' 0), (u3' 0), (u3' 0), (u3' 0), (u3' 0)] ++ (ce4 ++ (ce5)))) false)],
 []⟩⟩
theorem ok6_6 : N6_6.ok = true := by kernel_rfl
def N6_7 : NT := ⟨2, [86, 29], ⟨List.append ([(i6' 16), (.int .u32 tm12), .lost, .lost, .lost, (bo' true), .lost, (.ptr 6 0)]) (List.append (List.replicate 78 .lost) (List.append ([(.ptr 6 0), .lost, .lost, .lost, .lost, (.slice 7 0 27 27 13), .lost, .lost, .lost, .lost, (.slice 8 0 50 50 1), (i6' 50), (i6' 27)]) (List.replicate 16 .lost))),
 objsFrom 198 0 doorL ++ [ob5, (.cells (cex50 ++ (cex40 ++ (cex65 ++ (cex66 ++ (cex67 ++ (cex68 ++ (ce96 ++ (ce97 ++ (ce98))))))))) false), (.cells cex19 false), (.cells [(.ptr 11 0)] false), (.cells [(.slice 12 0 128 128 1)] false), ob3, (.cells (cex20 ++ (cex1 ++ (ce1 ++ (ce2)))) false), (.cells (ce55 ++ ([(u3' 7), (u3' 0), (.int .u32 tm10), (u3' 0), (u3' 0), (u3' 0), (u3' 0), (u3' 0), (u3' 0), (u3' 0), (u3' 0), (u3' 0), (u3' 0)] ++ (ce4 ++ (ce5)))) false)],
 []⟩⟩
theorem ok6_7 : N6_7.ok = true := by kernel_rfl
def N6_8 : NT := ⟨2, [86, 29], ⟨List.append ([(i6' 17), (.int .u32 tm12), .lost, .lost, .lost, (bo' true), .lost, (.ptr 6 0)]) (List.append (List.replicate 78 .lost) (List.append ([(.ptr 6 0), .lost, .lost, .lost, .lost, (.slice 7 0 27 27 13), .lost, .lost, .lost, .lost, (.slice 8 0 53 53 1), (i6' 53), (i6' 27)]) (List.replicate 16 .lost))),
 objsFrom 198 0 doorL ++ [ob5, (.cells (cex51 ++ (cex40 ++ (cex65 ++ (cex66 ++ (cex67 ++ (cex68 ++ (ce96 ++ (ce97 ++ (ce98))))))))) false), (.cells (cex21 ++ (ce10)) false), (.cells [(.ptr 11 0)] false), (.cells [(.slice 12 0 128 128 1)] false), ob3, (.cells (cex22 ++ (cex1 ++ (ce1 ++ (ce2)))) false), (.cells (ce55 ++ ([(u3' 8), (u3' 0), (.int .u32 tm10), (u3' 0), (u3' 0), (u3' 0), (u3' 0), (u3' 0), (u3' 0), (u3' 0), (u3' 0), (u3' 0), (u3' 0)] ++ (ce4 ++ (ce5)))) false)],
 []⟩⟩
theorem ok6_8 : N6_8.ok = true := by kernel_rfl
def N6_9 : NT := ⟨2, [86, 29], ⟨List.append ([(i6' 18), (.int .u32 tm12), .lost, .lost, .lost, (bo' true), .lost, (.ptr 6 0)]) (List.append (List.replicate 78 .lost) (List.append ([(.ptr 6 0), .lost, .lost, .lost, .lost, (.slice 7 0 27 27 13), .lost, .lost, .lost, .lost, (.slice 8 0 56 56 1), (i6' 56), (i6' 27)]) (List.replicate 16 .lost))),
 objsFrom 198 0 doorL ++ [ob5, (.cells (cex52 ++ (cex40 ++ (cex65 ++ (cex66 ++ (cex67 ++ (cex68 ++ (ce96 ++ (ce97 ++ (ce98))))))))) false), (.cells (cex21 ++ (ce12)) false), (.cells [(.ptr 11 0)] false), (.cells [(.slice 12 0 128 128 1)] false), ob3, (.cells (cex23 ++ (cex1 ++ (ce1 ++ (ce2)))) false), (.cells (ce55 ++ ([(u3' 9), (u3' 0), (.int .u32 tm10), (u3' 0), (u3' 0), (u3' 0), (u3' 0), (u3' 0), (u3' 0), (u3' 0), (u3' 0), (u3' 0), (u3' 0)] ++ (ce4 ++ (ce5)))) false)],
 []⟩⟩
theorem ok6_9 : N6_9.ok = true := by kernel_rfl
def N6_10 : NT := ⟨2, [86, 29], ⟨List.append ([(i6' 19), (.int .u32 tm12), .lost, .lost, .lost, (bo' true), .lost, (.ptr 6 0)]) (List.append (List.replicate 78 .lost) (List.append ([(.ptr 6 0), .lost, .lost, .lost, .lost, (.slice 7 0 27 27 13), .lost, .lost, .lost, .lost, (.slice 8 0 59 59 1), (i6' 59), (i6' 27)]) (List.replicate 16 .lost))),
 objsFrom 198 0 doorL ++ [ob5, (.cells (cex53 ++ (cex40 ++ (cex65 ++ (cex66 ++ (cex67 ++ (cex68 ++ (ce96 ++ (ce97 ++ (ce98))))))))) false), (.cells (cex21 ++ (ce14)) false), (.cells [(.ptr 11 0)] false), (.cells [(.slice 12 0 128 128 1)] false), ob3, (.cells (cex24 ++ (cex1 ++ (ce1 ++ (ce2)))) false), (.cells (ce55 ++ ([(u3' 10), (u3' 0), (.int .u32 tm10), (u3' 0), (u3' 0), (u3' 0), (u3' 0), (u3' 0), (u3' 0), (u3' 0), (u3' 0), (u3' 0), (u3' 0)] ++ (ce4 ++ (ce5)))) false)],
 []⟩⟩
theorem ok6_10 : N6_10.ok = true := by kernel_rfl
def N6_11 : NT := ⟨2, [86, 29], ⟨List.append ([(i6' 20), (.int .u32 tm12), .lost, .lost, .lost, (bo' true), .lost, (.ptr 6 0)]) (List.append (List.replicate 78 .lost) (List.append ([(.ptr 6 0), .lost, .lost, .lost, .lost, (.slice 7 0 27 27 13), .lost, .lost, .lost, .lost, (.slice 8 0 62 62 1), (i6' 62), (i6' 27)]) (List.replicate 16 .lost))),
 objsFrom 198 0 doorL ++ [ob5, (.cells (cex54 ++ (cex40 ++ (cex65 ++ (cex66 ++ (cex67 ++ (cex68 ++ (ce96 ++ (ce97 ++ (ce98))))))))) false), (.cells (cex21 ++ (ce16)) false), (.cells [(.ptr 11 0)] false), (.cells [(.slice 12 0 128 128 1)] false), ob3, (.cells (cex25 ++ (cex1 ++ (ce1 ++ (ce2)))) false), (.cells (ce55 ++ ([(u3' 11), (u3' 0), (.int .u32 tm10), (u3' 0), (u3' 0), (u3' 0), (u3' 0), (u3' 0), (u3' 0), (u3' 0), (u3' 0), (u3' 0), (u3' 0)] ++ (ce4 ++ (ce5)))) false)],
 []⟩⟩
theorem ok6_11 : N6_11.ok = true := by kernel_rfl
def N6_12 : NT := ⟨2, [86, 29], ⟨List.append ([(i6' 21), (.int .u32 tm12), .lost, .lost, .lost, (bo' true), .lost, (.ptr 6 0)]) (List.append (List.replicate 78 .lost) (List.append ([(.ptr 6 0), .lost, .lost, .lost, .lost, (.slice 7 0 27 27 13), .lost, .lost, .lost, .lost, (.slice 8 0 65 65 1), (i6' 65), (i6' 27)]) (List.replicate 16 .lost))),
 objsFrom 198 0 doorL ++ [ob5, (.cells (cex55 ++ (cex40 ++ (cex65 ++ (cex66 ++ (cex67 ++ (cex68 ++ (ce96 ++ (ce97 ++ (ce98))))))))) false), (.cells (cex21 ++ (ce9)) false), (.cells [(.ptr 11 0)] false), (.cells [(.slice 12 0 128 128 1)] false), ob3, (.cells (cex26 ++ (cex1 ++ (ce1 ++ (ce2)))) false), (.cells (ce55 ++ ([(u3' 12), (u3' 0), (.int .u32 tm10), (u3' 0), (u3' 0), (u3' 0), (u3' 0), (u3' 0), (u3' 0), (u3' 0), (u3' 0), (u3' 0), (u3' 0)] ++ (ce4 ++ (ce5)))) false)],
 []⟩⟩
theorem ok6_12 : N6_12.ok = true := by kernel_rfl
def N6_13 : NT := ⟨2, [86, 29], ⟨List.append ([(i6' 22), (.int .u32 tm12), .lost, .lost, .lost, (bo' true), .lost, (.ptr 6 0)]) (List.append (List.replicate 78 .lost) (List.append ([(.ptr 6 0), .lost, .lost, .lost, .lost, (.slice 7 0 27 27 13), .lost, .lost, .lost, .lost, (.slice 8 0 68 68 1), (i6' 68), (i6' 27)]) (List.replicate 16 .lost))),
 objsFrom 198 0 doorL ++ [ob5, (.cells (cex56 ++ (cex40 ++ (cex65 ++ (cex66 ++ (cex67 ++ (cex68 ++ (ce96 ++ (ce97 ++ (ce98))))))))) false), (.cells (cex21 ++ (ce9 ++ (ce19))) false), (.cells [(.ptr 11 0)] false), (.cells [(.slice 12 0 128 128 1)] false), ob3, (.cells (cex27 ++ (cex1 ++ (ce1 ++ (ce2)))) false), (.cells (ce55 ++ ([(u3' 13), (u3' 0), (.int .u32 tm10), (u3' 0), (u3' 0), (u3' 0), (u3' 0), (u3' 0), (u3' 0), (u3' 0), (u3' 0), (u3' 0), (u3' 0)] ++ (ce4 ++ (ce5)))) false)],
 []⟩⟩
theorem ok6_13 : N6_13.ok = true := by kernel_rfl
def N6_14 : NT := ⟨2, [86, 29], ⟨List.append ([(i6' 23), (.int .u32 tm12), .lost, .lost, .lost, (bo' true), .lost, (.ptr 6 0)]) (List.append (List.replicate 78 .lost) (List.append ([(.ptr 6 0), .lost, .lost, .lost, .lost, (.slice 7 0 27 27 13), .lost, .lost, .lost, .lost, (.slice 8 0 71 71 1), (i6' 71), (i6' 27)]) (List.replicate 16 .lost))),
 objsFrom 198 0 doorL ++ [ob5, (.cells (cex57 ++ (cex40 ++ (cex65 ++ (cex66 ++ (cex67 ++ (cex68 ++ (ce96 ++ (ce97 ++ (ce98))))))))) false), (.cells (cex21 ++ (ce9 ++ (ce21))) false), (.cells [(.ptr 11 0)] false), (.cells [(.slice 12 0 128 128 1)] false), ob3, (.cells (cex28 ++ (cex1 ++ (ce1 ++ (ce2)))) false), (.cells (ce55 ++ ([(u3' 14), (u3' 0), (.int .u32 tm10), (u3' 0), (u3' 0), (u3' 0), (u3' 0), (u3' 0), (u3' 0), (u3' 0), (u3' 0), (u3' 0), (u3' 0)] ++ (ce4 ++ (ce5)))) false)],
 []⟩⟩
theorem ok6_14 : N6_14.ok = true := by kernel_rfl
def N6_15 : NT := ⟨2, [86, 29], ⟨List.append ([(i6' 24), (.int .u32 tm12), .lost, .lost, .lost, (bo' true), .lost, (.ptr 6 0)]) (List.append (List.replicate 78 .lost) (List.append ([(.ptr 6 0), .lost, .lost, .lost, .lost, (.slice 7 0 27 27 13), .lost, .lost, .lost, .lost, (.slice 8 0 74 74 1), (i6' 74), (i6' 27)]) (List.replicate 16 .lost))),
 objsFrom 198 0 doorL ++ [ob5, (.cells (cex58 ++ (cex40 ++ (cex65 ++ (cex66 ++ (cex67 ++ (cex68 ++ (ce96 ++ (ce97 ++ (ce98))))))))) false), (.cells (cex21 ++ (ce9 ++ (ce23))) false), (.cells [(.ptr 11 0)] false), (.cells [(.slice 12 0 128 128 1)] false), ob3, (.cells (cex29 ++ (cex1 ++ (ce1 ++ (ce2)))) false), (.cells (ce55 ++ ([(u3' 15), (u3' 0), (.int .u32 tm10), (u3' 0), (u3' 0), (u3' 0), (u3' 0), (u3' 0), (u3' 0), (u3' 0), (u3' 0), (u3' 0), (u3' 0)] ++ (ce4 ++ (ce5)))) false)],
 []⟩⟩
theorem ok6_15 : N6_15.ok = true := by kernel_rfl
def N6_16 : NT := ⟨2, [86, 29], ⟨List.append ([(i6' 25), (.int .u32 tm12), .lost, .lost, .lost, (bo' true), .lost, (.ptr 6 0)]) (List.append (List.replicate 78 .lost) (List.append ([(.ptr 6 0), .lost, .lost, .lost, .lost, (.slice 7 0 27 27 13), .lost, .lost, .lost, .lost, (.slice 8 0 77 77 1), (i6' 77), (i6' 27)]) (List.replicate 16 .lost))),
 objsFrom 198 0 doorL ++ [ob5, (.cells (cex59 ++ (cex40 ++ (cex65 ++ (cex66 ++ (cex67 ++ (cex68 ++ (ce96 ++ (ce97 ++ (ce98))))))))) false), (.cells (cex21 ++ (ce9 ++ (ce25))) false), (.cells [(.ptr 11 0)] false), (.cells [(.slice 12 0 128 128 1)] false), ob3, (.cells (cex30 ++ (cex1 ++ (ce1 ++ (ce2)))) false), (.cells (ce55 ++ ([(u3' 16), (u3' 0), (.int .u32 tm10), (u3' 0), (u3' 0), (u3' 0), (u3' 0), (u3' 0), (u3' 0), (u3' 0), (u3' 0), (u3' 0), (u3' 0)] ++ (ce4 ++ (ce5)))) false)],
 []⟩⟩
theorem ok6_16 : N6_16.ok = true := by kernel_rfl
def N6_17 : NT := ⟨2, [86, 29], ⟨List.append ([(i6' 26), (.int .u32 tm12), .lost, .lost, .lost, (bo' true), .lost, (.ptr 6 0)]) (List.append (List.replicate 78 .lost) (List.append ([(.ptr 6 0), .lost, .lost, .lost, .lost, (.slice 7 0 27 27 13), .lost, .lost, .lost, .lost, (.slice 8 0 80 80 1), (i6' 80), (i6' 27)]) (List.replicate 16 .lost))),
 objsFrom 198 0 doorL ++ [ob5, (.cells (cex60 ++ (cex40 ++ (cex65 ++ (cex66 ++ (cex67 ++ (cex68 ++ (ce96 ++ (ce97 ++ (ce98))))))))) false), (.cells (cex21 ++ (ce9 ++ (ce9 ++ (ce27)))) false), (.cells [(.ptr 11 0)] false), (.cells [(.slice 12 0 128 128 1)] false), ob3, (.cells (cex31 ++ (cex1 ++ (ce1 ++ (ce2)))) false), (.cells (ce55 ++ ([(u3' 17), (u3' 0), (.int .u32 tm10), (u3' 0), (u3' 0), (u3' 0), (u3' 0), (u3' 0), (u3' 0), (u3' 0), (u3' 0), (u3' 0), (u3' 0)] ++ (ce4 ++ (ce5)))) false)],
 []⟩⟩
theorem ok6_17 : N6_17.ok = true := by kernel_rfl
def N6_18 : NT := ⟨2, [86, 29], ⟨List.append ([(i6' 27), (.int .u32 tm12), .lost, .lost, .lost, (bo' true), .lost, (.ptr 6 0)]) (List.append (List.replicate 78 .lost) (List.append ([(.ptr 6 0), .lost, .lost, .lost, .lost, (.slice 7 0 27 27 13), .lost, .lost, .lost, .lost, (.slice 8 0 83 83 1), (i6' 83), (i6' 27)]) (List.replicate 16 .lost))),
 objsFrom 198 0 doorL ++ [ob5, (.cells (cex61 ++ (cex40 ++ (cex65 ++ (cex66 ++ (cex67 ++ (cex68 ++ (ce96 ++ (ce97 ++ (ce98))))))))) false), (.cells (cex21 ++ (ce9 ++ (ce9 ++ (ce29)))) false), (.cells [(.ptr 11 0)] false), (.cells [(.slice 12 0 128 128 1)] false), ob3, (.cells (cex32 ++ (cex1 ++ (ce1 ++ (ce2)))) false), (.cells (ce55 ++ ([(u3' 18), (u3' 0), (.int .u32 tm10), (u3' 0), (u3' 0), (u3' 0), (u3' 0), (u3' 0), (u3' 0), (u3' 0), (u3' 0), (u3' 0), (u3' 0)] ++ (ce4 ++ (ce5)))) false)],
 []⟩⟩
theorem ok6_18 : N6_18.ok = true := by kernel_rfl
def N6_19 : NT := ⟨2, [86, 29], ⟨List.append ([(i6' 28), (.int .u32 tm12), .lost, .lost, .lost, (bo' true), .lost, (.ptr 6 0)]) (List.append (List.replicate 78 .lost) (List.append ([(.ptr 6 0), .lost, .lost, .lost, .lost, (.slice 7 0 27 27 13), .lost, .lost, .lost, .lost, (.slice 8 0 86 86 1), (i6' 86), (i6' 27)]) (List.replicate 16 .lost))),
 objsFrom 198 0 doorL ++ [ob5, (.cells (cex62 ++ (cex40 ++ (cex65 ++ (cex66 ++ (cex67 ++ (cex68 ++ (ce96 ++ (ce97 ++ (ce98))))))))) false), (.cells (cex21 ++ (ce9 ++ (ce9 ++ (ce6)))) false), (.cells [(.ptr 11 0)] false), (.cells [(.slice 12 0 128 128 1)] false), ob3, (.cells (cex33 ++ (cex1 ++ (ce1 ++ (ce2)))) false), (.cells (ce55 ++ ([(u3' 19), (u3' 0), (.int .u32 tm10), (u3' 0), (u3' 0), (u3' 0), (u3' 0), (u3' 0), (u3' 0), (u3' 0), (u3' 0), (u3' 0), (u3' 0)] ++ (ce4 ++ (ce5)))) false)],
 []⟩⟩
theorem ok6_19 : N6_19.ok = true := by kernel_rfl
def N6_20 : NT := ⟨2, [86, 29], ⟨List.append ([(i6' 29), (.int .u32 tm12), .lost, .lost, .lost, (bo' true), .lost, (.ptr 6 0)]) (List.append (List.replicate 78 .lost) (List.append ([(.ptr 6 0), .lost, .lost, .lost, .lost, (.slice 7 0 27 27 13), .lost, .lost, .lost, .lost, (.slice 8 0 89 89 1), (i6' 89), (i6' 27)]) (List.replicate 16 .lost))),
 objsFrom 198 0 doorL ++ [ob5, (.cells (cex63 ++ (cex40 ++ (cex65 ++ (cex66 ++ (cex67 ++ (cex68 ++ (ce96 ++ (ce97 ++ (ce98))))))))) false), (.cells (cex21 ++ (ce9 ++ (ce9 ++ (ce7)))) false), (.cells [(.ptr 11 0)] false), (.cells [(.slice 12 0 128 128 1)] false), ob3, (.cells (cex34 ++ (cex1 ++ (ce1 ++ (ce2)))) false), (.cells (ce55 ++ ([(u3' 20), (u3' 0), (.int .u32 tm10), (u3' 0), (u3' 0), (u3' 0), (u3' 0), (u3' 0), (u3' 0), (u3' 0), (u3' 0), (u3' 0), (u3' 0)] ++ (ce4 ++ (ce5)))) false)],
 []⟩⟩
theorem ok6_20 : N6_20.ok = true := by kernel_rfl
def N6_21 : NT := ⟨2, [86, 29], ⟨List.append ([(i6' 30), (.int .u32 tm12), .lost, .lost, .lost, (bo' true), .lost, (.ptr 6 0)]) (List.append (List.replicate 78 .lost) (List.append ([(.ptr 6 0), .lost, .lost, .lost, .lost, (.slice 7 0 27 27 13), .lost, .lost, .lost, .lost, (.slice 8 0 92 92 1), (i6' 92), (i6' 27)]) (List.replicate 16 .lost))),
 objsFrom 198 0 doorL ++ [ob5, (.cells (cex64 ++ (cex40 ++ (cex65 ++ (cex66 ++ (cex67 ++ (cex68 ++ (ce96 ++ (ce97 ++ (ce98))))))))) false), (.cells (cex21 ++ (cex35)) false), (.cells [(.ptr 11 0)] false), (.cells [(.slice 12 0 128 128 1)] false), ob3, (.cells (cex36 ++ (cex1 ++ (ce1 ++ (ce2)))) false), (.cells (ce55 ++ ([(u3' 21), (u3' 0), (.int .u32 tm10), (u3' 0), (u3' 0), (u3' 0), (u3' 0), (u3' 0), (u3' 0), (u3' 0), (u3' 0), (u3' 0), (u3' 0)] ++ (ce4 ++ (ce5)))) false)],
 []⟩⟩
theorem ok6_21 : N6_21.ok = true := by kernel_rfl
def N7_0 : NT := ⟨2, [86, 29], ⟨List.append ([(i6' 12), (.int .u32 tm12), .lost, .lost, .lost, (bo' true), .lost, (.ptr 6 0)]) (List.append (List.replicate 78 .lost) (List.append ([(.ptr 6 0), .lost, .lost, .lost, .lost, (.slice 7 0 36 36 13), .lost, .lost, .lost, .lost, (.slice 8 0 38 38 1), (i6' 38), (i6' 36)]) (List.replicate 16 .lost))),
 objsFrom 198 0 doorL ++ [ob6, (.cells (cex46 ++ (cex40 ++ (cex65 ++ (cex66 ++ (cex67 ++ (cex68 ++ (cex69 ++ (cex70 ++ (cex71))))))))) false), (.cells (ce9 ++ (ce9 ++ (ce25))) false), (.cells [(.ptr 11 0)] false), (.cells [(.slice 12 0 128 128 1)] false), ob3, (.cells (cex12 ++ (cex1 ++ (ce1 ++ (ce2)))) false), (.cells (ce55 ++ ([(u3' 0), (u3' 0), (.int .u32 tm2), (u3' 0), (u3' 0), (u3' 0), (u3' 0), (u3' 0), (u3' 0), (u3' 0), (u3' 0), (u3' 0), (u3' 0)] ++ (ce4 ++ (ce5)))) false)],
 []⟩⟩
theorem ok7_0 : N7_0.ok = true := by kernel_rfl
def N7_1 : NT := ⟨2, [86, 29], ⟨List.append ([(i6' 13), (.int .u32 tm12), .lost, .lost, .lost, (bo' true), .lost, (.ptr 6 0)]) (List.append (List.replicate 78 .lost) (List.append ([(.ptr 6 0), .lost, .lost, .lost, .lost, (.slice 7 0 36 36 13), .lost, .lost, .lost, .lost, (.slice 8 0 41 41 1), (i6' 41), (i6' 36)]) (List.replicate 16 .lost))),
 objsFrom 198 0 doorL ++ [ob6, (.cells (cex47 ++ (cex40 ++ (cex65 ++ (cex66 ++ (cex67 ++ (cex68 ++ (cex69 ++ (cex70 ++ (cex71))))))))) false), (.cells cex13 false), (.cells [(.ptr 11 0)] false), (.cells [(.slice 12 0 128 128 1)] false), ob3, (.cells (cex14 ++ (cex1 ++ (ce1 ++ (ce2)))) false), (.cells (ce55 ++ ([(u3' 1), (u3' 0), (.int .u32 tm2), (u3' 0), (u3' 0), (u3' 0), (u3' 0), (u3' 0), (u3' 0), (u3' 0), (u3' 0), (u3' 0), (u3' 0)] ++ (ce4 ++ (ce5)))) false)],
 []⟩⟩
theorem ok7_1 : N7_1.ok = true := by kernel_rfl
def N7_2 : NT := ⟨2, [86, 29], ⟨List.append ([(i6' 14), (.int .u32 tm12), .lost, .lost, .lost, (bo' true), .lost, (.ptr 6 0)]) (List.append (List.replicate 78 .lost) (List.append ([(.ptr 6 0), .lost, .lost, .lost, .lost, (.slice 7 0 36 36 13), .lost, .lost, .lost, .lost, (.slice 8 0 44 44 1), (i6' 44), (i6' 36)]) (List.replicate 16 .lost))),
 objsFrom 198 0 doorL ++ [ob6, (.cells (cex48 ++ (cex40 ++ (cex65 ++ (cex66 ++ (cex67 ++ (cex68 ++ (cex69 ++ (cex70 ++ (cex71))))))))) false), (.cells cex15 false), (.cells [(.ptr 11 0)] false), (.cells [(.slice 12 0 128 128 1)] false), ob3, (.cells (cex16 ++ (cex1 ++ (ce1 ++ (ce2)))) false), (.cells (ce55 ++ ([(u3' 2), (u3' 0), (.int .u32 tm2), (u3' 0), (u3' 0), (u3' 0), (u3' 0), (u3' 0), (u3' 0), (u3' 0), (u3' 0), (u3' 0), (u3' 0)] ++ (ce4 ++ (ce5)))) false)],
 []⟩⟩
theorem ok7_2 : N7_2.ok = true := by kernel_rfl
def N7_3 : NT := ⟨2, [86, 29], ⟨List.append ([(i6' 15), (.int .u32 tm12), .lost, .lost, .lost, (bo' true), .lost, (.ptr 6 0)]) (List.append (List.replicate 78 .lost) (List.append ([(.ptr 6 0), .lost, .lost, .lost, .lost, (.slice 7 0 36 36 13), .lost, .lost, .lost, .lost, (.slice 8 0 47 47 1), (i6' 47), (i6' 36)]) (List.replicate 16 .lost))),
 objsFrom 198 0 doorL ++ [ob6, (.cells (cex49 ++ (cex40 ++ (cex65 ++ (cex66 ++ (cex67 ++ (cex68 ++ (cex69 ++ (cex70 ++ (cex71))))))))) false), (.cells cex17 false), (.cells [(.ptr 11 0)] false), (.cells [(.slice 12 0 128 128 1)] false), ob3, (.cells (cex18 ++ (cex1 ++ (ce1 ++ (ce2)))) false), (.cells (ce55 ++ ([(u3' 3), (u3' 0), (.int .u32 tm2), (u3' 0), (u3' 0), (u3' 0), (u3' 0), (u3' 0), (u3' 0), (u3' 0), (u3' 0), (u3' 0), (u3' 0)] ++ (ce4 ++ (ce5)))) false)],
 []⟩⟩
theorem ok7_3 : N7_3.ok = true := by kernel_rfl
def N7_4 : NT := ⟨2, [86, 29], ⟨List.append ([(i6' 16), (.int .u32 tm12), .lost, .lost, .lost, (bo' true), .lost, (.ptr 6 0)]) (List.append (List.replicate 78 .lost) (List.append ([(.ptr 6 0), .lost, .lost, .lost, .lost, (.slice 7 0 36 36 13), .lost, .lost, .lost, .lost, (.slice 8 0 50 50 1), (i6' 50), (i6' 36)]) (List.replicate 16 .lost))),
 objsFrom 198 0 doorL ++ [ob6, (.cells (cex50 ++ (cex40 ++ (cex65 ++ (cex66 ++ (cex67 ++ (cex68 ++ (cex69 ++ (cex70 ++ (cex71))))))))) false), (.cells cex19 false), (.cells [(.ptr 11 0)] false), (.cells [(.slice 12 0 128 128 1)] false), ob3, (.cells (cex20 ++ (cex1 ++ (ce1 ++ (ce2)))) false), (.cells (ce55 ++ ([(u3' 4), (u3' 0), (.int .u32 tm2), (u3' 0), (u3' 0), (u3' 0), (u3' 0), (u3' 0), (u3' 0), (u3' 0), (u3' 0), (u3' 0), (u3' 0)] ++ (ce4 ++ (ce5)))) false)],
 []⟩⟩
theorem ok7_4 : N7_4.ok = true := by kernel_rfl
def N7_5 : NT := ⟨2, [86, 29], ⟨List.append ([(i6' 17), (.int .u32 tm12), .lost, .lost, .lost, (bo' true), .lost, (.ptr 6 0)]) (List.append (List.replicate 78 .lost) (List.append ([(.ptr 6 0), .lost, .lost, .lost, .lost, (.slice 7 0 36 36 13), .lost, .lost, .lost, .lost, (.slice 8 0 53 53 1), (i6' 53), (i6' 36)]) (List.replicate 16 .lost))),
 objsFrom 198 0 doorL ++ [ob6, (.cells (cex51 ++ (cex40 ++ (cex65 ++ (cex66 ++ (cex67 ++ (cex68 ++ (cex69 ++ (cex70 ++ (cex71))))))))) false), (.cells (cex21 ++ (ce10)) false), (.cells [(.ptr 11 0)] false), (.cells [(.slice 12 0 128 128 1)] false), ob3, (.cells (cex22 ++ (cex1 ++ (ce1 ++ (ce2)))) false), (.cells (ce55 ++ ([(u3' 5), (u3' 0), (.int .u32 tm2), (u3' 0), (u3' 0), (u3' 0), (u3' 0), (u3' 0), (u3' 0), (u3' 0), (u3' 0), (u3' 0), (u3' 0)] ++ (ce4 ++ (ce5)))) false)],
 []⟩⟩
theorem ok7_5 : N7_5.ok = true := by kernel_rfl
def N7_6 : NT := ⟨2, [86, 29], ⟨List.append ([(i6' 18), (.int .u32 tm12), .lost, .lost, .lost, (bo' true), .lost, (.ptr 6 0)]) (List.append (List.replicate 78 .lost) (List.append ([(.ptr 6 0), .lost, .lost, .lost, .lost, (.slice 7 0 36 36 13), .lost, .lost, .lost, .lost, (.slice 8 0 56 56 1), (i6' 56), (i6' 36)]) (List.replicate 16 .lost))),
 objsFrom 198 0 doorL ++ [ob6, (.cells (cex52 ++ (cex40 ++ (cex65 ++ (cex66 ++ (cex67 ++ (cex68 ++ (cex69 ++ (cex70 ++ (cex71))))))))) false), (.cells (cex21 ++ (ce12)) false), (.cells [(.ptr 11 0)] false), (.cells [(.slice 12 0 128 128 1)] false), ob3, (.cells (cex23 ++ (cex1 ++ (ce1 ++ (ce2)))) false), (.cells (ce55 ++ ([(u3' 6), (u3' 0), (.int .u32 tm2), (u3' 0), (u3' 0), (u3' 0), (u3' 0), (u3' 0), (u3' 0), (u3' 0), (u3' 0), (u3' 0), (u3' 0)] ++ (ce4 ++ (ce5)))) false)],
 []⟩⟩
theorem ok7_6 : N7_6.ok = true := by kernel_rfl
def N7_7 : NT := ⟨2, [86, 29], ⟨List.append ([(i6' 19), (.int .u32 tm12), .lost, .lost, .lost, (bo' true), .lost, (.ptr 6 0)]) (List.append (List.replicate 78 .lost) (List.append ([(.ptr 6 0), .lost, .lost, .lost, .lost, (.slice 7 0 36 36 13), .lost, .lost, .lost, .lost, (.slice 8 0 59 59 1), (i6' 59), (i6' 36)]) (List.replicate 16 .lost))),
 objsFrom 198 0 doorL ++ [ob6, (.cells (cex53 ++ (cex40 ++ (cex65 ++ (cex66 ++ (cex67 ++ (cex68 ++ (cex69 ++ (cex70 ++ (cex71))))))))) false), (.cells (cex21 ++ (ce14)) false), (.cells [(.ptr 11 0)] false), (.cells [(.slice 12 0 128 128 1)] false), ob3, (.cells (cex24 ++ (cex1 ++ (ce1 ++ (ce2)))) false), (.cells (ce55 ++ ([(u3' 7), (u3' 0), (.int .u32 tm2), (u3' 0), (u3' 0), (u3' 0), (u3' 0), (u3' 0), (u3' 0), (u3' 0), (u3' 0), (u3' 0), (u3' 0)] ++ (ce4 ++ (ce5)))) false)],
 []⟩⟩
theorem ok7_7 : N7_7.ok = true := by kernel_rfl
def N7_8 : NT := ⟨2, [86, 29], ⟨List.append ([(i6' 20), (.int .u32 tm12), .lost, .lost, .lost, (bo' true), .lost, (.ptr 6 0)]) (List.append (List.replicate 78 .lost) (List.append ([(.ptr 6 0), .lost, .lost, .lost, .lost, (.slice 7 0 36 36 13), .lost, .lost, .lost, .lost, (.slice 8 0 62 62 1), (i6' 62), (i6' 36)]) (List.replicate 16 .lost))),
 objsFrom 198 0 doorL ++ [ob6, (.cells (cex54 ++ (cex40 ++ (cex65 ++ (cex66 ++ (cex67 ++ (cex68 ++ (cex69 ++ (cex70 ++ (cex71))))))))) false), (.cells (cex21 ++ (ce16)) false), (.cells [(.ptr 11 0)] false), (.cells [(.slice 12 0 128 128 1)] false), ob3, (.cells (cex25 ++ (cex1 ++ (ce1 ++ (ce2)))) false), (.cells (ce55 ++ ([(u3' 8), (u3' 0), (.int .u32 tm2), (u3' 0), (u3' 0), (u3' 0), (u3' 0), (u3' 0), (u3' 0), (u3' 0), (u3' 0), (u3' 0), (u3' 0)] ++ (ce4 ++ (ce5)))) false)],
 []⟩⟩
theorem ok7_8 : N7_8.ok = true := by kernel_rfl
def N7_9 : NT := ⟨2, [86, 29], ⟨List.append ([(i6' 21), (.int .u32 tm12), .lost, .lost, .lost, (bo' true), .lost, (.ptr 6 0)]) (List.append (List.replicate 78 .lost) (List.append ([(.ptr 6 0), .lost, .lost, .lost, .lost, (.slice 7 0 36 36 13), .lost, .lost, .lost, .lost, (.slice 8 0 65 65 1), (i6' 65), (i6' 36)]) (List.replicate 16 .lost))),
 objsFrom 198 0 doorL ++ [ob6, (.cells (cex55 ++ (cex40 ++ (cex65 ++ (cex66 ++ (cex67 ++ (cex68 ++ (cex69 ++ (cex70 ++ (cex71))))))))) false), (.cells (cex21 ++ (ce9)) false), (.cells [(.ptr 11 0)] false), (.cells [(.slice 12 0 128 128 1)] false), ob3, (.cells (cex26 ++ (cex1 ++ (ce1 ++ (ce2)))) false), (.cells (ce55 ++ ([(u3' 9), (u3' 0), (.int .u32 tm2), (u3' 0), (u3' 0), (u3' 0), (u3' 0), (u3' 0), (u3' 0), (u3' 0), (u3' 0), (u3' 0), (u3' 0)] ++ (ce4 ++ (ce5)))) false)],
 []⟩⟩
theorem ok7_9 : N7_9.ok = true := by kernel_rfl
def N7_10 : NT := ⟨2, [86, 29], ⟨List.append ([(i6' 22), (.int .u32 tm12), .lost, .lost, .lost, (bo' true), .lost, (.ptr 6 0)]) (List.append (List.replicate 78 .lost) (List.append ([(.ptr 6 0), .lost, .lost, .lost, .lost, (.slice 7 0 36 36 13), .lost, .lost, .lost, .lost, (.slice 8 0 68 68 1), (i6' 68), (i6' 36)]) (List.replicate 16 .lost))),
 objsFrom 198 0 doorL ++ [ob6, (.cells (cex56 ++ (cex40 ++ (cex65 ++ (cex66 ++ (cex67 ++ (cex68 ++ (cex69 ++ (cex70 ++ (cex71))))))))) false), (.cells (cex21 ++ (ce9 ++ (ce19))) false), (.cells [(.ptr 11 0)] false), (.cells [(.slice 12 0 128 128 1)] false), ob3, (.cells (cex27 ++ (cex1 ++ (ce1 ++ (ce2)))) false), (.cells (ce55 ++ ([(u3' 10), (u3' 0), (.int .u32 tm2), (u3' 0), (u3' 0), (u3' 0), (u3' 0), (u3' 0), (u3' 0), (u3' 0), (u3' 0), (u3' 0), (u3' 0)] ++ (ce4 ++ (ce5)))) false)],
 []⟩⟩
theorem ok7_10 : N7_10.ok = true := by kernel_rfl
def N7_11 : NT := ⟨2, [86, 29], ⟨List.append ([(i6' 23), (.int .u32 tm12), .lost, .lost, .lost, (bo' true), .lost, (.ptr 6 0)]) (List.append (List.replicate 78 .lost) (List.append ([(.ptr 6 0), .lost, .lost, .lost, .lost, (.slice 7 0 36 36 13), .lost, .lost, .lost, .lost, (.slice 8 0 71 71 1), (i6' 71), (i6' 36)]) (List.replicate 16 .lost))),
 objsFrom 198 0 doorL ++ [ob6, (.cells (cex57 ++ (cex40 ++ (cex65 ++ (cex66 ++ (cex67 ++ (cex68 ++ (cex69 ++ (cex70 ++ (cex71))))))))) false), (.cells (cex21 ++ (ce9 ++ (ce21))) false), (.cells [(.ptr 11 0)] false), (.cells [(.slice 12 0 128 128 1)] false), ob3, (.cells (cex28 ++ (cex1 ++ (ce1 ++ (ce2)))) false), (.cells (ce55 ++ ([(u3' 11), (u3' 0), (.int .u32 tm2), (u3' 0), (u3' 0), (u3' 0), (u3' 0), (u3' 0), (u3' 0), (u3' 0), (u3' 0), (u3' 0), (u3' 0)] ++ (ce4 ++ (ce5)))) false)],
 []⟩⟩
theorem ok7_11 : N7_11.ok = true := by kernel_rfl
def N7_12 : NT := ⟨2, [86, 29], ⟨List.append ([(i6' 24), (.int .u32 tm12), .lost, .lost, .lost, (bo' true), .lost, (.ptr 6 0)]) (List.append (List.replicate 78 .lost) (List.append ([(.ptr 6 0), .lost, .lost, .lost, .lost, (.slice 7 0 36 36 13), .lost, .lost, .lost, .lost, (.slice 8 0 74 74 1), (i6' 74), (i6' 36)]) (List.replicate 16 .lost))),
 objsFrom 198 0 doorL ++ [ob6, (.cells (cex58 ++ (cex40 ++ (cex65 ++ (cex66 ++ (cex67 ++ (cex68 ++ (cex69 ++ (cex70 ++ (cex71))))))))) false), (.cells (cex21 ++ (ce9 ++ (ce23))) false), (.cells [(.ptr 11 0)] false), (.cells [(.slice 12 0 128 128 1)] false), ob3, (.cells (cex29 ++ (cex1 ++ (ce1 ++ (ce2)))) false), (.cells (ce55 ++ ([(u3' 12), (u3' 0), (.int .u32 tm2), (u3' 0), (u3' 0), (u3' 0), (u3' 0), (u3' 0), (u3' 0), (u3' 0), (u3' 0), (u3' 0), (u3' 0)] ++ (ce4 ++ (ce5)))) false)],
 []⟩⟩
theorem ok7_12 : N7_12.ok = true := by kernel_rfl
def N7_13 : NT := ⟨2, [86, 29], ⟨List.append ([(i6' 25), (.int .u32 tm12), .lost, .lost, .lost, (bo' true), .lost, (.ptr 6 0)]) (List.append (List.replicate 78 .lost) (List.append ([(.ptr 6 0), .lost, .lost, .lost, .lost, (.slice 7 0 36 36 13), .lost, .lost, .lost, .lost, (.slice 8 0 77 77 1), (i6' 77), (i6' 36)]) (List.replicate 16 .lost))),
 objsFrom 198 0 doorL ++ [ob6, (.cells (cex59 ++ (cex40 ++ (cex65 ++ (cex66 ++ (cex67 ++ (cex68 ++ (cex69 ++ (cex70 ++ (cex71))))))))) false), (.cells (cex21 ++ (ce9 ++ (ce25))) false), (.cells [(.ptr 11 0)] false), (.cells [(.slice 12 0 128 128 1)] false), ob3, (.cells (cex30 ++ (cex1 ++ (ce1 ++ (ce2)))) false), (.cells (ce55 ++ ([(u3' 13), (u3' 0), (.int .u32 tm2), (u3' 0), (u3' 0), (u3' 0), (u3' 0), (u3' 0), (u3' 0), (u3' 0), (u3' 0), (u3' 0), (u3' 0)] ++ (ce4 ++ (ce5)))) false)],
 []⟩⟩
theorem ok7_13 : N7_13.ok = true := by kernel_rfl
def N7_14 : NT := ⟨2, [86, 29], ⟨List.append ([(i6' 26), (.int .u32 tm12), .lost, .lost, .lost, (bo' true), .lost, (.ptr 6 0)]) (List.append (List.replicate 78 .lost) (List.append ([(.ptr 6 0), .lost, .lost, .lost, .lost, (.slice 7 0 36 36 13), .lost, .lost, .lost, .lost, (.slice 8 0 80 80 1), (i6' 80), (i6' 36)]) (List.replicate 16 .lost))),
 objsFrom 198 0 doorL ++ [ob6, (.cells (cex60 ++ (cex40 ++ (cex65 ++ (cex66 ++ (cex67 ++ (cex68 ++ (cex69 ++ (cex70 ++ (cex71))))))))) false), (.cells (cex21 ++ (ce9 ++ (ce9 ++ (ce27)))) false), (.cells [(.ptr 11 0)] false), (.cells [(.slice 12 0 128 128 1)] false), ob3, (.cells (cex31 ++ (cex1 ++ (ce1 ++ (ce2)))) false), (.cells (ce55 ++ ([(u3' 14), (u3' 0), (.int .u32 tm2), (u3' 0), (u3' 0), (u3' 0), (u3' 0), (u3' 0), (u3' 0), (u3' 0), (u3' 0), (u3' 0), (u3' 0)] ++ (ce4 ++ (ce5)))) false)],
 []⟩⟩
theorem ok7_14 : N7_14.ok = true := by kernel_rfl
def N7_15 : NT := ⟨2, [86, 29], ⟨List.append ([(i6' 27), (.int .u32 tm12), .lost, .lost, .lost, (bo' true), .lost, (.ptr 6 0)]) (List.append (List.replicate 78 .lost) (List.append ([(.ptr 6 0), .lost, .lost, .lost, .lost, (.slice 7 0 36 36 13), .lost, .lost, .lost, .lost, (.slice 8 0 83 83 1), (i6' 83), (i6' 36)]) (List.replicate 16 .lost))),
 objsFrom 198 0 doorL ++ [ob6, (.cells (cex61 ++ (cex40 ++ (cex65 ++ (cex66 ++ (cex67 ++ (cex68 ++ (cex69 ++ (cex70 ++ (cex71))))))))) false), (.cells (cex21 ++ (ce9 ++ (ce9 ++ (ce29)))) false), (.cells [(.ptr 11 0)] false), (.cells [(.slice 12 0 128 128 1)] false), ob3, (.cells (cex32 ++ (cex1 ++ (ce1 ++ (ce2)))) false), (.cells (ce55 ++ ([(u3' 15), (u3' 0), (.int .u32 tm2), (u3' 0), (u3' 0), (u3' 0), (u3' 0), (u3' 0), (u3' 0), (u3' 0), (u3' 0), (u3' 0), (u3' 0)] ++ (ce4 ++ (ce5)))) false)],
 []⟩⟩
theorem ok7_15 : N7_15.ok = true := by kernel_rfl
def N7_16 : NT := ⟨2, [86, 29], ⟨List.append ([(i6' 28), (.int .u32 tm12), .lost, .lost, .lost, (bo' true), .lost, (.ptr 6 0)]) (List.append (List.replicate 78 .lost) (List.append ([(.ptr 6 0), .lost, .lost, .lost, .lost, (.slice 7 0 36 36 13), .lost, .lost, .lost, .lost, (.slice 8 0 86 86 1), (i6' 86), (i6' 36)]) (List.replicate 16 .lost))),
 objsFrom 198 0 doorL ++ [ob6, (.cells (cex62 ++ (cex40 ++ (cex65 ++ (cex66 ++ (cex67 ++ (cex68 ++ (cex69 ++ (cex70 ++ (cex71))))))))) false), (.cells (cex21 ++ (ce9 ++ (ce9 ++ (ce6)))) false), (.cells [(.ptr 11 0)] false), (.cells [(.slice 12 0 128 128 1)] false), ob3, (.cells (cex33 ++ (cex1 ++ (ce1 ++ (ce2)))) false), (.cells (ce55 ++ ([(u3' 16), (u3' 0), (.int .u32 tm2), (u3' 0), (u3' 0), (u3' 0), (u3' 0), (u3' 0), (u3' 0), (u3' 0), (u3' 0), (u3' 0), (u3' 0)] ++ (ce4 ++ (ce5)))) false)],
 []⟩⟩
theorem ok7_16 : N7_16.ok = true := by kernel_rfl
def N7_17 : NT := ⟨2, [86, 29], ⟨List.append ([(i6' 29), (.int .u32 tm12), .lost, .lost, .lost, (bo' true), .lost, (.ptr 6 0)]) (List.append (List.replicate 78 .lost) (List.append ([(.ptr 6 0), .lost, .lost, .lost, .lost, (.slice 7 0 36 36 13), .lost, .lost, .lost, .lost, (.slice 8 0 89 89 1), (i6' 89), (i6' 36)]) (List.replicate 16 .lost))),
 objsFrom 198 0 doorL ++ [ob6, (.cells (cex63 ++ (cex40 ++ (cex65 ++ (cex66 ++ (cex67 ++ (cex68 ++ (cex69 ++ (cex70 ++ (cex71))))))))) false), (.cells (cex21 ++ (ce9 ++ (ce9 ++ (ce7)))) false), (.cells [(.ptr 11 0)] false), (.cells [(.slice 12 0 128 128 1)] false), ob3, (.cells (cex34 ++ (cex1 ++ (ce1 ++ (ce2)))) false), (.cells (ce55 ++ ([(u3' 17), (u3' 0), (.int .u32 tm2), (u3' 0), (u3' 0), (u3' 0), (u3' 0), (u3' 0), (u3' 0), (u3' 0), (u3' 0), (u3' 0), (u3' 0)] ++ (ce4 ++ (ce5)))) false)],
 []⟩⟩
theorem ok7_17 : N7_17.ok = true := by kernel_rfl
def N7_18 : NT := ⟨2, [86, 29], ⟨List.append ([(i6' 30), (.int .u32 tm12), .lost, .lost, .lost, (bo' true), .lost, (.ptr 6 0)]) (List.append (List.replicate 78 .lost) (List.append ([(.ptr 6 0), .lost, .lost, .lost, .lost, (.slice 7 0 36 36 13), .lost, .lost, .lost, .lost, (.slice 8 0 92 92 1), (i6' 92), (i6' 36)]) (List.replicate 16 .lost))),
 objsFrom 198 0 doorL ++ [ob6, (.cells (cex64 ++ (cex40 ++ (cex65 ++ (cex66 ++ (cex67 ++ (cex68 ++ (cex69 ++ (cex70 ++ (cex71))))))))) false), (.cells (cex21 ++ (cex35)) false), (.cells [(.ptr 11 0)] false), (.cells [(.slice 12 0 128 128 1)] false), ob3, (.cells (cex36 ++ (cex1 ++ (ce1 ++ (ce2)))) false), (.cells (ce55 ++ ([(u3' 18), (u3' 0), (.int .u32 tm2), (u3' 0), (u3' 0), (u3' 0), (u3' 0), (u3' 0), (u3' 0), (u3' 0), (u3' 0), (u3' 0), (u3' 0)] ++ (ce4 ++ (ce5)))) false)],
 []⟩⟩
theorem ok7_18 : N7_18.ok = true := by kernel_rfl
def N8_0 : NT := ⟨2, [86, 29], ⟨List.append ([(i6' 15), (.int .u32 tm12), .lost, .lost, .lost, (bo' true), .lost, (.ptr 6 0)]) (List.append (List.replicate 78 .lost) (List.append ([(.ptr 6 0), .lost, .lost, .lost, .lost, (.slice 7 0 45 45 13), .lost, .lost, .lost, .lost, (.slice 8 0 47 47 1), (i6' 47), (i6' 45)]) (List.replicate 16 .lost))),
 objsFrom 198 0 doorL ++ [ob7, (.cells (cex49 ++ (cex40 ++ (cex65 ++ (cex66 ++ (cex67 ++ (cex68 ++ (cex69 ++ (cex70 ++ (cex71 ++ (cex72 ++ (cex73 ++ (ce116)))))))))))) false), (.cells cex17 false), (.cells [(.ptr 11 0)] false), (.cells [(.slice 12 0 128 128 1)] false), ob3, (.cells (cex18 ++ (cex1 ++ (ce1 ++ (ce2)))) false), (.cells (ce55 ++ ([(u3' 0), (u3' 0), (.int .u32 tm3), (u3' 0), (u3' 0), (u3' 0), (u3' 0), (u3' 0), (u3' 0), (u3' 0), (u3' 0), (u3' 0), (u3' 0)] ++ (ce4 ++ (ce5)))) false)],
 []⟩⟩
theorem ok8_0 : N8_0.ok = true := by kernel_rfl
def N8_1 : NT := ⟨2, [86, 29], ⟨List.append ([(i6' 16), (.int .u32 tm12), .lost, .lost, .lost, (bo' true), .lost, (.ptr 6 0)]) (List.append (List.replicate 78 .lost) (List.append ([(.ptr 6 0), .lost, .lost, .lost, .lost, (.slice 7 0 45 45 13), .lost, .lost, .lost, .lost, (.slice 8 0 50 50 1), (i6' 50), (i6' 45)]) (List.replicate 16 .lost))),
 objsFrom 198 0 doorL ++ [ob7, (.cells (cex50 ++ (cex40 ++ (cex65 ++ (cex66 ++ (cex67 ++ (cex68 ++ (cex69 ++ (cex70 ++ (cex71 ++ (cex72 ++ (cex73 ++ (ce116)))))))))))) false), (.cells cex19 false), (.cells [(.ptr 11 0)] false), (.cells [(.slice 12 0 128 128 1)] false), ob3, (.cells (cex20 ++ (cex1 ++ (ce1 ++ (ce2)))) false), (.cells (ce55 ++ ([(u3' 1), (u3' 0), (.int .u32 tm3), (u3' 0), (u3' 0), (u3' 0), (u3' 0), (u3' 0), (u3' 0), (u3' 0), (u3' 0), (u3' 0), (u3' 0)] ++ (ce4 ++ (ce5)))) false)],
 []⟩⟩
theorem ok8_1 : N8_1.ok = true := by kernel_rfl
def N8_2 : NT := ⟨2, [86, 29], ⟨List.append ([(i6' 17), (.int .u32 tm12), .lost, .lost, .lost, (bo' true), .lost, (.ptr 6 0)]) (List.append (List.replicate 78 .lost) (List.append ([(.ptr 6 0), .lost, .lost, .lost, .lost, (.slice 7 0 45 45 13), .lost, .lost, .lost, .lost, (.slice 8 0 53 53 1), (i6' 53), (i6' 45)]) (List.replicate 16 .lost))),
 objsFrom 198 0 doorL ++ [ob7, (.cells (cex51 ++ (cex40 ++ (cex65 ++ (cex66 ++ (cex67 ++ (cex68 ++ (cex69 ++ (cex70 ++ (cex71 ++ (cex72 ++ (cex73 ++ (ce116)))))))))))) false), (.cells (cex21 ++ (ce10)) false), (.cells [(.ptr 11 0)] false), (.cells [(.slice 12 0 128 128 1)] false), ob3, (.cells (cex22 ++ (cex1 ++ (ce1 ++ (ce2)))) false), (.cells (ce55 ++ ([(u3' 2), (u3' 0), (.int .u32 tm3), (u3' 0), (u3' 0), (u3' 0), (u3' 0), (u3' 0), (u3' 0), (u3' 0), (u3' 0), (u3' 0), (u3' 0)] ++ (ce4 ++ (ce5)))) false)],
 []⟩⟩
theorem ok8_2 : N8_2.ok = true := by kernel_rfl
def N8_3 : NT := ⟨2, [86, 29], ⟨List.append ([(i6' 18), (.int .u32 tm12), .lost, .lost, .lost, (bo' true), .lost, (.ptr 6 0)]) (List.append (List.replicate 78 .lost) (List.append ([(.ptr 6 0), .lost, .lost, .lost, .lost, (.slice 7 0 45 45 13), .lost, .lost, .lost, .lost, (.slice 8 0 56 56 1), (i6' 56), (i6' 45)]) (List.replicate 16 .lost))),
 objsFrom 198 0 doorL ++ [ob7, (.cells (cex52 ++ (cex40 ++ (cex65 ++ (cex66 ++ (cex67 ++ (cex68 ++ (cex69 ++ (cex70 ++ (cex71 ++ (cex72 ++ (cex73 ++ (ce116)))))))))))) false), (.cells (cex21 ++ (ce12)) false), (.cells [(.ptr 11 0)] false), (.cells [(.slice 12 0 128 128 1)] false), ob3, (.cells (cex23 ++ (cex1 ++ (ce1 ++ (ce2)))) false), (.cells (ce55 ++ ([(u3' 3), (u3' 0), (.int .u32 tm3), (u3' 0), (u3' 0), (u3' 0), (u3' 0), (u3' 0), (u3' 0), (u3' 0), (u3' 0), (u3' 0), (u3' 0)] ++ (ce4 ++ (ce5)))) false)],
 []⟩⟩
theorem ok8_3 : N8_3.ok = true := by kernel_rfl
def N8_4 : NT := ⟨2, [86, 29], ⟨List.append ([(i6' 19), (.int .u32 tm12), .lost, .lost, .lost, (bo' true), .lost, (.ptr 6 0)]) (List.append (List.replicate 78 .lost) (List.append ([(.ptr 6 0), .lost, .lost, .lost, .lost, (.slice 7 0 45 45 13), .lost, .lost, .lost, .lost, (.slice 8 0 59 59 1), (i6' 59), (i6' 45)]) (List.replicate 16 .lost))),
 objsFrom 198 0 doorL ++ [ob7, (.cells (cex53 ++ (cex40 ++ (cex65 ++ (cex66 ++ (cex67 ++ (cex68 ++ (cex69 ++ (cex70 ++ (cex71 ++ (cex72 ++ (cex73 ++ (ce116)))))))))))) false), (.cells (cex21 ++ (ce14)) false), (.cells [(.ptr 11 0)] false), (.cells [(.slice 12 0 128 128 1)] false), ob3, (.cells (cex24 ++ (cex1 ++ (ce1 ++ (ce2)))) false), (.cells (ce55 ++ ([(u3' 4), (u3' 0), (.int .u32 tm3), (u3' 0), (u3' 0), (u3' 0), (u3' 0), (u3' 0), (u3' 0), (u3' 0), (u3' 0), (u3' 0), (u3' 0)] ++ (ce4 ++ (ce5)))) false)],
 []⟩⟩
theorem ok8_4 : N8_4.ok = true := by kernel_rfl
def N8_5 : NT := ⟨2, [86, 29], ⟨List.append ([(i6' 20), (.int .u32 tm12), .lost, .lost, .lost, (bo' true), .lost, (.ptr 6 0)]) (List.append (List.replicate 78 .lost) (List.append ([(.ptr 6 0), .lost, .lost, .lost, .lost, (.slice 7 0 45 45 13), .lost, .lost, .lost, .lost, (.slice 8 0 62 62 1), (i6' 62), (i6' 45)]) (List.replicate 16 .lost))),
 objsFrom 198 0 doorL ++ [ob7, (.cells (cex54 ++ (cex40 ++ (cex65 ++ (cex66 ++ (cex67 ++ (cex68 ++ (cex69 ++ (cex70 ++ (cex71 ++ (cex72 ++ (cex73 ++ (ce116)))))))))))) false), (.cells (cex21 ++ (ce16)) false), (.cells [(.ptr 11 0)] false), (.cells [(.slice 12 0 128 128 1)] false), ob3, (.cells (cex25 ++ (cex1 ++ (ce1 ++ (ce2)))) false), (.cells (ce55 ++ ([(u3' 5), (u3' 0), (.int .u32 tm3), (u3' 0), (u3' 0), (u3' 0), (u3' 0), (u3' 0), (u3' 0), (u3' 0), (u3' 0), (u3' 0), (u3' 0)] ++ (ce4 ++ (ce5)))) false)],
 []⟩⟩
theorem ok8_5 : N8_5.ok = true := by kernel_rfl
def N8_6 : NT := ⟨2, [86, 29], ⟨List.append ([(i6' 21), (.int .u32 tm12), .lost, .lost, .lost, (bo' true), .lost, (.ptr 6 0)]) (List.append (List.replicate 78 .lost) (List.append ([(.ptr 6 0), .lost, .lost, .lost, .lost, (.slice 7 0 45 45 13), .lost, .lost, .lost, .lost, (.slice 8 0 65 65 1), (i6' 65), (i6' 45)]) (List.replicate 16 .lost))),
 objsFrom 198 0 doorL ++ [ob7, (.cells (cex55 ++ (cex40 ++ (cex65 ++ (cex66 ++ (cex67 ++ (cex68 ++ (cex69 ++ (cex70 ++ (cex71 ++ (cex72 ++ (cex73 ++ (ce116)))))))))))) false), (.cells (cex21 ++ (ce9)) false), (.cells [(.ptr 11 0)] false), (.cells [(.slice 12 0 128 128 1)] false), ob3, (.cells (cex26 ++ (cex1 ++ (ce1 ++ (ce2)))) false), (.cells (ce55 ++ ([(u3' 6), (u3' 0), (.int .u32 tm3), (u3' 0), (u3' 0), (u3' 0), (u3' 0), (u3' 0), (u3' 0), (u3' 0), (u3' 0), (u3' 0), (u3' 0)] ++ (ce4 ++ (ce5)))) false)],
 []⟩⟩
theorem ok8_6 : N8_6.ok = true := by kernel_rfl
def N8_7 : NT := ⟨2, [86, 29], ⟨List.append ([(i6' 22), (.int .u32 tm12), .lost, .lost, .lost, (bo' true), .lost, (.ptr 6 0)]) (List.append (List.replicate 78 .lost) (List.append ([(.ptr 6 0), .lost, .lost, .lost, .lost, (.slice 7 0 45 45 13), .lost, .lost, .lost, .lost, (.slice 8 0 68 68 1), (i6' 68), (i6' 45)]) (List.replicate 16 .lost))),
 objsFrom 198 0 doorL ++ [ob7, (.cells (cex56 ++ (cex40 ++ (cex65 ++ (cex66 ++ (cex67 ++ (cex68 ++ (cex69 ++ (cex70 ++ (cex71 ++ (cex72 ++ (cex73 ++ (ce116)))))))))))) false), (.cells (cex21 ++ (ce9 ++ (ce19))) false), (.cells [(.ptr 11 0)] false), (.cells [(.slice 12 0 128 128 1)] false), ob3, (.cells (cex27 ++ (cex1 ++ (ce1 ++ (ce2)))) false), (.cells (ce55 ++ ([(u3' 7), (u3' 0), (.int .u32 tm3), (u3' 0), (u3' 0), (u3' 0), (u3' 0), (u3' 0), (u3' 0), (u3' 0), (u3' 0), (u3' 0), (u3' 0)] ++ (ce4 ++ (ce5)))) false)],
 []⟩⟩
theorem ok8_7 : N8_7.ok = true := by kernel_rfl
def N8_8 : NT := ⟨2, [86, 29], ⟨List.append ([(i6' 23), (.int .u32 tm12), .lost, .lost, .lost, (bo' true), .lost, (.ptr 6 0)]) (List.append (List.replicate 78 .lost) (List.append ([(.ptr 6 0), .lost, .lost, .lost, .lost, (.slice 7 0 45 45 13), .lost, .lost, .lost, .lost, (.slice 8 0 71 71 1), (i6' 71), (i6' 45)]) (List.replicate 16 .lost))),
 objsFrom 198 0 doorL ++ [ob7, (.cells (cex57 ++ (cex40 ++ (cex65 ++ (cex66 ++ (cex67 ++ (cex68 ++ (cex69 ++ (cex70 ++ (cex71 ++ (cex72 ++ (cex73 ++ (ce116)))))))))))) false), (.cells (cex21 ++ (ce9 ++ (ce21))) false), (.cells [(.ptr 11 0)] false), (.cells [(.slice 12 0 128 128 1)] false), ob3, (.cells (cex28 ++ (cex1 ++ (ce1 ++ (ce2)))) false), (.cells (ce55 ++ ([(u3' 8), (u3' 0), (.int .u32 tm3), (u3' 0), (u3' 0), (u3' 0), (u3' 0), (u3' 0), (u3' 0), (u3' 0), (u3' 0), (u3' 0), (u3' 0)] ++ (ce4 ++ (ce5)))) false)],
 []⟩⟩
theorem ok8_8 : N8_8.ok = true := by kernel_rfl
def N8_9 : NT := ⟨2, [86, 29], ⟨List.append ([(i6' 24), (.int .u32 tm12), .lost, .lost, .lost, (bo' true), .lost, (.ptr 6 0)]) (List.append (List.replicate 78 .lost) (List.append ([(.ptr 6 0), .lost, .lost, .lost, .lost, (.slice 7 0 45 45 13), .lost, .lost, .lost, .lost, (.slice 8 0 74 74 1), (i6' 74), (i6' 45)]) (List.replicate 16 .lost))),
 objsFrom 198 0 doorL ++ [ob7, (.cells (cex58 ++ (cex40 ++ (cex65 ++ (cex66 ++ (cex67 ++ (cex68 ++ (cex69 ++ (cex70 ++ (cex71 ++ (cex72 ++ (cex73 ++ (ce116)))))))))))) false), (.cells (cex21 ++ (ce9 ++ (ce23))) false), (.cells [(.ptr 11 0)] false), (.cells [(.slice 12 0 128 128 1)] false), ob3, (.cells (cex29 ++ (cex1 ++ (ce1 ++ (ce2)))) false), (.cells (ce55 ++ ([(u3' 9), (u3' 0), (.int .u32 tm3), (u3' 0), (u3' 0), (u3' 0), (u3' 0), (u3' 0), (u3' 0), (u3' 0), (u3' 0), (u3' 0), (u3' 0)] ++ (ce4 ++ (ce5)))) false)],
 []⟩⟩
theorem ok8_9 : N8_9.ok = true := by kernel_rfl
def N8_10 : NT := ⟨2, [86, 29], ⟨List.append ([(i6' 25), (.int .u32 tm12), .lost, .lost, .lost, (bo' true), .lost, (.ptr 6 0)]) (List.append (List.replicate 78 .lost) (List.append ([(.ptr 6 0), .lost, .lost, .lost, .lost, (.slice 7 0 45 45 13), .lost, .lost, .lost, .lost, (.slice 8 0 77 77 1), (i6' 77), (i6' 45)]) (List.replicate 16 .lost))),
 objsFrom 198 0 doorL ++ [ob7, (.cells (cex59 ++ (cex40 ++ (cex65 ++ (cex66 ++ (cex67 ++ (cex68 ++ (cex69 ++ (cex70 ++ (cex71 ++ (cex72 ++ (cex73 ++ (ce116)))))))))))) false), (.cells (cex21 ++ (ce9 ++ (ce25))) false), (.cells [(.ptr 11 0)] false), (.cells [(.slice 12 0 128 128 1)] false), ob3, (.cells (cex30 ++ (cex1 ++ (ce1 ++ (ce2)))) false), (.cells (ce55 ++ ([(u3' 10), (u3' 0), (.int .u32 tm3), (u3' 0), (u3' 0), (u3' 0), (u3' 0), (u3' 0), (u3' 0), (u3' 0), (u3' 0), (u3' 0), (u3' 0)] ++ (ce4 ++ (ce5)))) false)],
 []⟩⟩
theorem ok8_10 : N8_10.ok = true := by kernel_rfl
def N8_11 : NT := ⟨2, [86, 29], ⟨List.append ([(i6' 26), (.int .u32 tm12), .lost, .lost, .lost, (bo' true), .lost, (.ptr 6 0)]) (List.append (List.replicate 78 .lost) (List.append ([(.ptr 6 0), .lost, .lost, .lost, .lost, (.slice 7 0 45 45 13), .lost, .lost, .lost, .lost, (.slice 8 0 80 80 1), (i6' 80), (i6' 45)]) (List.replicate 16 .lost))),
 objsFrom 198 0 doorL ++ [ob7, (.cells (cex60 ++ (cex40 ++ (cex65 ++ (cex66 ++ (cex67 ++ (cex68 ++ (cex69 ++ (cex70 ++ (cex71 ++ (cex72 ++ (cex73 ++ (ce116)))))))))))) false), (.cells (cex21 ++ (ce9 ++ (ce9 ++ (ce27)))) false), (.cells [(.ptr 11 0)] false), (.cells [(.slice 12 0 128 128 1)] false), ob3, (.cells (cex31 ++ (cex1 ++ (ce1 ++ (ce2)))) false), (.cells (ce55 ++ ([(u3' 11), (u3' 0), (.int .u32 tm3), (u3' 0), (u3' 0), (u3' 0), (u3' 0), (u3' 0), (u3' 0), (u3' 0), (u3' 0), (u3' 0), (u3' 0)] ++ (ce4 ++ (ce5)))) false)],
 []⟩⟩
theorem ok8_11 : N8_11.ok = true := by kernel_rfl
def N8_12 : NT := ⟨2, [86, 29], ⟨List.append ([(i6' 27), (.int .u32 tm12), .lost, .lost, .lost, (bo' true), .lost, (.ptr 6 0)]) (List.append (List.replicate 78 .lost) (List.append ([(.ptr 6 0), .lost, .lost, .lost, .lost, (.slice 7 0 45 45 13), .lost, .lost, .lost, .lost, (.slice 8 0 83 83 1), (i6' 83), (i6' 45)]) (List.replicate 16 .lost))),
 objsFrom 198 0 doorL ++ [ob7, (.cells (cex61 ++ (cex40 ++ (cex65 ++ (cex66 ++ (cex67 ++ (cex68 ++ (cex69 ++ (cex70 ++ (cex71 ++ (cex72 ++ (cex73 ++ (ce116)))))))))))) false), (.cells (cex21 ++ (ce9 ++ (ce9 ++ (ce29)))) false), (.cells [(.ptr 11 0)] false), (.cells [(.slice 12 0 128 128 1)] false), ob3, (.cells (cex32 ++ (cex1 ++ (ce1 ++ (ce2)))) false), (.cells (ce55 ++ ([(u3' 12), (u3' 0), (.int .u32 tm3), (u3' 0), (u3' 0), (u3' 0), (u3' 0), (u3' 0), (u3' 0), (u3' 0), (u3' 0), (u3' 0), (u3' 0)] ++ (ce4 ++ (ce5)))) false)],
 []⟩⟩
theorem ok8_12 : N8_12.ok = true := by kernel_rfl
def N8_13 : NT := ⟨2, [86, 29], ⟨List.append ([(i6' 28), (.int .u32 tm12), .lost, .lost, .lost, (bo' true), .lost, (.ptr 6 0)]) (List.append (List.replicate 78 .lost) (List.append ([(.ptr 6 0), .lost, .lost, .lost, .lost, (.slice 7 0 45 45 13), .lost, .lost, .lost, .lost, (.slice 8 0 86 86 1), (i6' 86), (i6' 45)]) (List.replicate 16 .lost))),
 objsFrom 198 0 doorL ++ [ob7, (.cells (cex62 ++ (cex40 ++ (cex65 ++ (cex66 ++ (cex67 ++ (cex68 ++ (cex69 ++ (cex70 ++ (cex71 ++ (cex72 ++ (cex73 ++ (ce116)))))))))))) false), (.cells (cex21 ++ (ce9 ++ (ce9 ++ (ce6)))) false), (.cells [(.ptr 11 0)] false), (.cells [(.slice 12 0 128 128 1)] false), ob3, (.cells (cex33 ++ (cex1 ++ (ce1 ++ (ce2)))) false), (.cells (ce55 ++ ([(u3' 13), (u3' 0), (.int .u32 tm3), (u3' 0), (u3' 0), (u3' 0), (u3' 0), (u3' 0), (u3' 0), (u3' 0), (u3' 0), (u3' 0), (u3' 0)] ++ (ce4 ++ (ce5)))) false)],
 []⟩⟩
theorem ok8_13 : N8_13.ok = true := by kernel_rfl
def N8_14 : NT := ⟨2, [86, 29], ⟨List.append ([(i6' 29), (.int .u32 tm12), .lost, .lost, .lost, (bo' true), .lost, (.ptr 6 0)]) (List.append (List.replicate 78 .lost) (List.append ([(.ptr 6 0), .lost, .lost, .lost, .lost, (.slice 7 0 45 45 13), .lost, .lost, .lost, .lost, (.slice 8 0 89 89 1), (i6' 89), (i6' 45)]) (List.replicate 16 .lost))),
 objsFrom 198 0 doorL ++ [ob7, (.cells (cex63 ++ (cex40 ++ (cex65 ++ (cex66 ++ (cex67 ++ (cex68 ++ (cex69 ++ (cex70 ++ (cex71 ++ (cex72 ++ (cex73 ++ (ce116)))))))))))) false), (.cells (cex21 ++ (ce9 ++ (ce9 ++ (ce7)))) false), (.cells [(.ptr 11 0)] false), (.cells [(.slice 12 0 128 128 1)] false), ob3, (.cells (cex34 ++ (cex1 ++ (ce1 ++ (ce2)))) false), (.cells (ce55 ++ ([(u3' 14), (u3' 0), (.int .u32 tm3), (u3' 0), (u3' 0), (u3' 0), (u3' 0), (u3' 0), (u3' 0), (u3' 0), (u3' 0), (u3' 0), (u3' 0)] ++ (ce4 ++ (ce5)))) false)],
 []⟩⟩
theorem ok8_14 : N8_14.ok = true := by kernel_rfl
def N8_15 : NT := ⟨2, [86, 29], ⟨List.append ([(i6' 30), (.int .u32 tm12), .lost, .lost, .lost, (bo' true), .lost, (.ptr 6 0)]) (List.append (List.replicate 78 .lost) (List.append ([(.ptr 6 0), .lost, .lost, .lost, .lost, (.slice 7 0 45 45 13), .lost, .lost, .lost, .lost, (.slice 8 0 92 92 1), (i6' 92), (i6' 45)]) (List.replicate 16 .lost))),
 objsFrom 198 0 doorL ++ [ob7, (.cells (cex64 ++ (cex40 ++ (cex65 ++ (cex66 ++ (cex67 ++ (cex68 ++ (cex69 ++ (cex70 ++ (cex71 ++ (cex72 ++ (cex73 ++ (ce116)))))))))))) false), (.cells (cex21 ++ (cex35)) false), (.cells [(.ptr 11 0)] false), (.cells [(.slice 12 0 128 128 1)] false), ob3, (.cells (cex36 ++ (cex1 ++ (ce1 ++ (ce2)))) false), (.cells (ce55 ++ ([(u3' 15), (u3' 0), (.int .u32 tm3), (u3' 0), (u3' 0), (u3' 0), (u3' 0), (u3' 0), (u3' 0), (u3' 0), (u3' 0), (u3' 0), (u3' 0)] ++ (ce4 ++ (ce5)))) false)],
 []⟩⟩
theorem ok8_15 : N8_15.ok = true := by kernel_rfl
def N9_0 : NT := ⟨2, [86, 29], ⟨List.append ([(i6' 18), (.int .u32 tm12), .lost, .lost, .lost, (bo' true), .lost, (.ptr 6 0)]) (List.append (List.replicate 78 .lost) (List.append ([(.ptr 6 0), .lost, .lost, .lost, .lost, (.slice 7 0 54 54 13), .lost, .lost, .lost, .lost, (.slice 8 0 56 56 1), (i6' 56), (i6' 54)]) (List.replicate 16 .lost))),
 objsFrom 198 0 doorL ++ [ob8, (.cells (cex52 ++ (cex40 ++ (cex65 ++ (cex66 ++ (cex67 ++ (cex68 ++ (cex69 ++ (cex70 ++ (cex71 ++ (cex72 ++ (cex73 ++ (cex74 ++ (cex75 ++ (ce124 ++ (ce125))))))))))))))) false), (.cells (cex21 ++ (ce12)) false), (.cells [(.ptr 11 0)] false), (.cells [(.slice 12 0 128 128 1)] false), ob3, (.cells (cex23 ++ (cex1 ++ (ce1 ++ (ce2)))) false), (.cells (ce55 ++ ([(u3' 0), (u3' 0), (.int .u32 tm4), (u3' 0), (u3' 0), (u3' 0), (u3' 0), (u3' 0), (u3' 0), (u3' 0), (u3' 0), (u3' 0), (u3' 0)] ++ (ce4 ++ (ce5)))) false)],
 []⟩⟩
theorem ok9_0 : N9_0.ok = true := by kernel_rfl
def N9_1 : NT := ⟨2, [86, 29], ⟨List.append ([(i6' 19), (.int .u32 tm12), .lost, .lost, .lost, (bo' true), .lost, (.ptr 6 0)]) (List.append (List.replicate 78 .lost) (List.append ([(.ptr 6 0), .lost, .lost, .lost, .lost, (.slice 7 0 54 54 13), .lost, .lost, .lost, .lost, (.slice 8 0 59 59 1), (i6' 59), (i6' 54)]) (List.replicate 16 .lost))),
 objsFrom 198 0 doorL ++ [ob8, (.cells (cex53 ++ (cex40 ++ (cex65 ++ (cex66 ++ (cex67 ++ (cex68 ++ (cex69 ++ (cex70 ++ (cex71 ++ (cex72 ++ (cex73 ++ (cex74 ++ (cex75 ++ (ce124 ++ (ce125))))))))))))))) false), (.cells (cex21 ++ (ce14)) false), (.cells [(.ptr 11 0)] false), (.cells [(.slice 12 0 128 128 1)] false), ob3, (.cells (cex24 ++ (cex1 ++ (ce1 ++ (ce2)))) false), (.cells (ce55 ++ ([(u3' 1), (u3' 0), (.int .u32 tm4), (u3' 0), (u3' 0), (u3' 0), (u3' 0), (u3' 0), (u3' 0), (u3' 0), (u3' 0), (u3' 0), (u3' 0)] ++ (ce4 ++ (ce5)))) false)],
 []⟩⟩
theorem ok9_1 : N9_1.ok = true := by kernel_rfl
def N9_2 : NT := ⟨2, [86, 29], ⟨List.append ([(i6' 20), (.int .u32 tm12), .lost, .lost, .lost, (bo' true), .lost, (.ptr 6 0)]) (List.append (List.replicate 78 .lost) (List.append ([(.ptr 6 0), .lost, .lost, .lost, .lost, (.slice 7 0 54 54 13), .lost, .lost, .lost, .lost, (.slice 8 0 62 62 1), (i6' 62), (i6' 54)]) (List.replicate 16 .lost))),
 objsFrom 198 0 doorL ++ [ob8, (.cells (cex54 ++ (cex40 ++ (cex65 ++ (cex66 ++ (cex67 ++ (cex68 ++ (cex69 ++ (cex70 ++ (cex71 ++ (cex72 ++ (cex73 ++ (cex74 ++ (cex75 ++ (ce124 ++ (ce125))))))))))))))) false), (.cells (cex21 ++ (ce16)) false), (.cells [(.ptr 11 0)] false), (.cells [(.slice 12 0 128 128 1)] false), ob3, (.cells (cex25 ++ (cex1 ++ (ce1 ++ (ce2)))) false), (.cells (ce55 ++ ([(u3' 2), (u3' 0), (.int .u32 tm4), (u3' 0), (u3' 0), (u3' 0), (u3' 0), (u3' 0), (u3' 0), (u3' 0), (u3' 0), (u3' 0), (u3' 0)] ++ (ce4 ++ (ce5)))) false)],
 []⟩⟩
theorem ok9_2 : N9_2.ok = true := by kernel_rfl
def N9_3 : NT := ⟨2, [86, 29], ⟨List.append ([(i6' 21), (.int .u32 tm12), .lost, .lost, .lost, (bo' true), .lost, (.ptr 6 0)]) (List.append (List.replicate 78 .lost) (List.append ([(.ptr 6 0), .lost, .lost, .lost, .lost, (.slice 7 0 54 54 13), .lost, .lost, .lost, .lost, (.slice 8 0 65 65 1), (i6' 65), (i6' 54)]) (List.replicate 16 .lost))),
 objsFrom 198 0 doorL ++ [ob8, (.cells (cex55 ++ (cex40 ++ (cex65 ++ (cex66 ++ (cex67 ++ (cex68 ++ (cex69 ++ (cex70 ++ (cex71 ++ (cex72 ++ (cex73 ++ (cex74 ++ (cex75 ++ (ce124 ++ (ce125))))))))))))))) false), (.cells (cex21 ++ (ce9)) false), (.cells [(.ptr 11 0)] false), (.cells [(.slice 12 0 128 128 1)] false), ob3, (.cells (cex26 ++ (cex1 ++ (ce1 ++ (ce2)))) false), (.cells (ce55 ++ ([(u3' 3), (u3' 0), (.int .u32 tm4), (u3' 0), (u3' 0), (u3' 0), (u3' 0), (u3' 0), (u3' 0), (u3' 0), (u3' 0), (u3' 0), (u3' 0)] ++ (ce4 ++ (ce5)))) false)],
 []⟩⟩
theorem ok9_3 : N9_3.ok = true := by kernel_rfl
def N9_4 : NT := ⟨2, [86, 29], ⟨List.append ([(i6' 22), (.int .u32 tm12), .lost, .lost, .lost, (bo' true), .lost, (.ptr 6 0)]) (List.append (List.replicate 78 .lost) (List.append ([(.ptr 6 0), .lost, .lost, .lost, .lost, (.slice 7 0 54 54 13), .lost, .lost, .lost, .lost, (.slice 8 0 68 68 1), (i6' 68), (i6' 54)]) (List.replicate 16 .lost))),
 objsFrom 198 0 doorL ++ [ob8, (.cells (cex56 ++ (cex40 ++ (cex65 ++ (cex66 ++ (cex67 ++ (cex68 ++ (cex69 ++ (cex70 ++ (cex71 ++ (cex72 ++ (cex73 ++ (cex74 ++ (cex75 ++ (ce124 ++ (ce125))))))))))))))) false), (.cells (cex21 ++ (ce9 ++ (ce19))) false), (.cells [(.ptr 11 0)] false), (.cells [(.slice 12 0 128 128 1)] false), ob3, (.cells (cex27 ++ (cex1 ++ (ce1 ++ (ce2)))) false), (.cells (ce55 ++ ([(u3' 4), (u3' 0), (.int .u32 tm4), (u3' 0), (u3' 0), (u3' 0), (u3' 0), (u3' 0), (u3' 0), (u3' 0), (u3' 0), (u3' 0), (u3' 0)] ++ (ce4 ++ (ce5)))) false)],
 []⟩⟩
theorem ok9_4 : N9_4.ok = true := by kernel_rfl
def N9_5 : NT := ⟨2, [86, 29], ⟨List.append ([(i6' 23), (.int .u32 tm12), .lost, .lost, .lost, (bo' true), .lost, (.ptr 6 0)]) (List.append (List.replicate 78 .lost) (List.append ([(.ptr 6 0), .lost, .lost, .lost, .lost, (.slice 7 0 54 54 13), .lost, .lost, .lost, .lost, (.slice 8 0 71 71 1), (i6' 71), (i6' 54)]) (List.replicate 16 .lost))),
 objsFrom 198 0 doorL ++ [ob8, (.cells (cex57 ++ (cex40 ++ (cex65 ++ (cex66 ++ (cex67 ++ (cex68 ++ (cex69 ++ (cex70 ++ (cex71 ++ (cex72 ++ (cex73 ++ (cex74 ++ (cex75 ++ (ce124 ++ (ce125))))))))))))))) false), (.cells (cex21 ++ (ce9 ++ (ce21))) false), (.cells [(.ptr 11 0)] false), (.cells [(.slice 12 0 128 128 1)] false), ob3, (.cells (cex28 ++ (cex1 ++ (ce1 ++ (ce2)))) false), (.cells (ce55 ++ ([(u3' 5), (u3' 0), (.int .u32 tm4), (u3' 0), (u3' 0), (u3' 0), (u3' 0), (u3' 0), (u3' 0), (u3' 0), (u3' 0), (u3' 0), (u3' 0)] ++ (ce4 ++ (ce5)))) false)],
 []⟩⟩
theorem ok9_5 : N9_5.ok = true := by kernel_rfl
def N9_6 : NT := ⟨2, [86, 29], ⟨List.append ([(i6' 24), (.int .u32 tm12), .lost, .lost, .lost, (bo' true), .lost, (.ptr 6 0)]) (List.append (List.replicate 78 .lost) (List.append ([(.ptr 6 0), .lost, .lost, .lost, .lost, (.slice 7 0 54 54 13), .lost, .lost, .lost, .lost, (.slice 8 0 74 74 1), (i6' 74), (i6' 54)]) (List.replicate 16 .lost))),
 objsFrom 198 0 doorL ++ [ob8, (.cells (cex58 ++ (cex40 ++ (cex65 ++ (cex66 ++ (cex67 ++ (cex68 ++ (cex69 ++ (cex70 ++ (cex71 ++ (cex72 ++ (cex73 ++ (cex74 ++ (cex75 ++ (ce124 ++ (ce125))))))))))))))) false), (.cells (cex21 ++ (ce9 ++ (ce23))) false), (.cells [(.ptr 11 0)] false), (.cells [(.slice 12 0 128 128 1)] false), ob3, (.cells (cex29 ++ (cex1 ++ (ce1 ++ (ce2)))) false), (.cells (ce55 ++ ([(u3' 6), (u3' 0), (.int .u32 tm4), (u3' 0), (u3' 0), (u3' 0), (u3' 0), (u3' 0), (u3' 0), (u3' 0), (u3' 0), (u3' 0), (u3' 0)] ++ (ce4 ++ (ce5)))) false)],
 []⟩⟩
theorem ok9_6 : N9_6.ok = true := by kernel_rfl
def N9_7 : NT := ⟨2, [86, 29], ⟨List.append ([(i6' 25), (.int .u32 tm12), .lost, .lost, .lost, (bo' true), .lost, (.ptr 6 0)]) (List.append (List.replicate 78 .lost) (List.append ([(.ptr 6 0), .lost, .lost, .lost, .lost, (.slice 7 0 54 54 13), .lost, .lost, .lost, .lost, (.slice 8 0 77 77 1), (i6' 77), (i6' 54)]) (List.replicate 16 .lost))),
 objsFrom 198 0 doorL ++ [ob8, (.cells (cex59 ++ (cex40 ++ (cex65 ++ (cex66 ++ (cex67 ++ (cex68 ++ (cex69 ++ (cex70 ++ (cex71 ++ (cex72 ++ (cex73 ++ (cex74 ++ (cex75 ++ (ce124 ++ (ce125))))))))))))))) false), (.cells (cex21 ++ (ce9 ++ (ce25))) false), (.cells [(.ptr 11 0)] false), (.cells [(.slice 12 0 128 128 1)] false), ob3, (.cells (cex30 ++ (cex1 ++ (ce1 ++ (ce2)))) false), (.cells (ce55 ++ ([(u3' 7), (u3' 0), (.int .u32 tm4), (u3' 0), (u3' 0), (u3' 0), (u3' 0), (u3' 0), (u3' 0), (u3' 0), (u3' 0), (u3' 0), (u3' 0)] ++ (ce4 ++ (ce5)))) false)],
 []⟩⟩
theorem ok9_7 : N9_7.ok = true := by kernel_rfl
def N9_8 : NT := ⟨2, [86, 29], ⟨List.append ([(i6' 26), (.int .u32 tm12), .lost, .lost, .lost, (bo' true), .lost, (.ptr 6 0)]) (List.append (List.replicate 78 .lost) (List.append ([(.ptr 6 0), .lost, .lost, .lost, .lost, (.slice 7 0 54 54 13), .lost, .lost, .lost, .lost, (.slice 8 0 80 80 1), (i6' 80), (i6' 54)]) (List.replicate 16 .lost))),
 objsFrom 198 0 doorL ++ [ob8, (.cells (cex60 ++ (cex40 ++ (cex65 ++ (cex66 ++ (cex67 ++ (cex68 ++ (cex69 ++ (cex70 ++ (cex71 ++ (cex72 ++ (cex73 ++ (cex74 ++ (cex75 ++ (ce124 ++ (ce125))))))))))))))) false), (.cells (cex21 ++ (ce9 ++ (ce9 ++ (ce27)))) false), (.cells [(.ptr 11 0)] false), (.cells [(.slice 12 0 128 128 1)] false), ob3, (.cells (cex31 ++ (cex1 ++ (ce1 ++ (ce2)))) false), (.cells (ce55 ++ ([(u3' 8), (u3' 0), (.int .u32 tm4), (u3' 0), (u3' 0), (u3' 0), (u3' 0), (u3' 0), (u3' 0), (u3' 0), (u3' 0), (u3' 0), (u3' 0)] ++ (ce4 ++ (ce5)))) false)],
 []⟩⟩
theorem ok9_8 : N9_8.ok = true := by kernel_rfl
def N9_9 : NT := ⟨2, [86, 29], ⟨List.append ([(i6' 27), (.int .u32 tm12), .lost, .lost, .lost, (bo' true), .lost, (.ptr 6 0)]) (List.append (List.replicate 78 .lost) (List.append ([(.ptr 6 0), .lost, .lost, .lost, .lost, (.slice 7 0 54 54 13), .lost, .lost, .lost, .lost, (.slice 8 0 83 83 1), (i6' 83), (i6' 54)]) (List.replicate 16 .lost))),
 objsFrom 198 0 doorL ++ [ob8, (.cells (cex61 ++ (cex40 ++ (cex65 ++ (cex66 ++ (cex67 ++ (cex68 ++ (cex69 ++ (cex70 ++ (cex71 ++ (cex72 ++ (cex73 ++ (cex74 ++ (cex75 ++ (ce124 ++ (ce125))))))))))))))) false), (.cells (cex21 ++ (ce9 ++ (ce9 ++ (ce29)))) false), (.cells [(.ptr 11 0)] false), (.cells [(.slice 12 0 128 128 1)] false), ob3, (.cells (cex32 ++ (cex1 ++ (ce1 ++ (ce2)))) false), (.cells (ce55 ++ ([(u3' 9), (u3' 0), (.int .u32 tm4), (u3' 0), (u3' 0), (u3' 0), (u3' 0), (u3' 0), (u3' 0), (u3' 0), (u3' 0), (u3' 0), (u3' 0)] ++ (ce4 ++ (ce5)))) false)],
 []⟩⟩
theorem ok9_9 : N9_9.ok = true := by kernel_rfl
def N9_10 : NT := ⟨2, [86, 29], ⟨List.append ([(i6' 28), (.int .u32 tm12), .lost, .lost, .lost, (bo' true), .lost, (.ptr 6 0)]) (List.append (List.replicate 78 .lost) (List.append ([(.ptr 6 0), .lost, .lost, .lost, .lost, (.slice 7 0 54 54 13), .lost, .lost, .lost, .lost, (.slice 8 0 86 86 1), (i6' 86), (i6' 54)]) (List.replicate 16 .lost))),
 objsFrom 198 0 doorL ++ [ob8, (.cells (cex62 ++ (cex40 ++ (cex65 ++ (cex66 ++ (cex67 ++ (cex68 ++ (cex69 ++ (cex70 ++ (cex71 ++ (cex72 ++ (cex73 ++ (cex74 ++ (cex75 ++ (ce124 ++ (ce125))))))))))))))) false), (.cells (cex21 ++ (ce9 ++ (ce9 ++ (ce6)))) false), (.cells [(.ptr 11 0)] false), (.cells [(.slice 12 0 128 128 1)] false), ob3, (.cells (cex33 ++ (cex1 ++ (ce1 ++ (ce2)))) false), (.cells (ce55 ++ ([(u3' 10), (u3' 0), (.int .u32 tm4), (u3' 0), (u3' 0), (u3' 0), (u3' 0), (u3' 0), (u3' 0), (u3' 0), (u3' 0), (u3' 0), (u3' 0)] ++ (ce4 ++ (ce5)))) false)],
 []⟩⟩
theorem ok9_10 : N9_10.ok = true := by kernel_rfl
def N9_11 : NT := ⟨2, [86, 29], ⟨List.append ([(i6' 29), (.int .u32 tm12), .lost, .lost, .lost, (bo' true), .lost, (.ptr 6 0)]) (List.append (List.replicate 78 .lost) (List.append ([(.ptr 6 0), .lost, .lost, .lost, .lost, (.slice 7 0 54 54 13), .lost, .lost, .lost, .lost, (.slice 8 0 89 89 1), (i6' 89), (i6' 54)]) (List.replicate 16 .lost))),
 objsFrom 198 0 doorL ++ [ob8, (.cells (cex63 ++ (cex40 ++ (cex65 ++ (cex66 ++ (cex67 ++ (cex68 ++ (cex69 ++ (cex70 ++ (cex71 ++ (cex72 ++ (cex73 ++ (cex74 ++ (cex75 ++ (ce124 ++ (ce125))))))))))))))) false), (.cells (cex21 ++ (ce9 ++ (ce9 ++ (ce7)))) false), (.cells [(.ptr 11 0)] false), (.cells [(.slice 12 0 128 128 1)] false), ob3, (.cells (cex34 ++ (cex1 ++ (ce1 ++ (ce2)))) false), (.cells (ce55 ++ ([(u3' 11), (u3' 0), (.int .u32 tm4), (u3' 0), (u3' 0), (u3' 0), (u3' 0), (u3' 0), (u3' 0), (u3' 0), (u3' 0), (u3' 0), (u3' 0)] ++ (ce4 ++ (ce5)))) false)],
 []⟩⟩
theorem ok9_11 : N9_11.ok = true := by kernel_rfl
def N9_12 : NT := ⟨2, [86, 29], ⟨List.append ([(i6' 30), (.int .u32 tm12), .lost, .lost, .lost, (bo' true), .lost, (.ptr 6 0)]) (List.append (List.replicate 78 .lost) (List.append ([(.ptr 6 0), .lost, .lost, .lost, .lost, (.slice 7 0 54 54 13), .lost, .lost, .lost, .lost, (.slice 8 0 92 92 1), (i6' 92), (i6' 54)]) (List.replicate 16 .lost))),
 objsFrom 198 0 doorL ++ [ob8, (.cells (cex64 ++ (cex40 ++ (cex65 ++ (cex66 ++ (cex67 ++ (cex68 ++ (cex69 ++ (cex70 ++ (cex71 ++ (cex72 ++ (cex73 ++ (cex74 ++ (cex75 ++ (ce124 ++ (ce125))))))))))))))) false), (.cells (cex21 ++ (cex35)) false), (.cells [(.ptr 11 0)] false), (.cells [(.slice 12 0 128 128 1)] false), ob3, (.cells (cex36 ++ (cex1 ++ (ce1 ++ (ce2)))) false), (.cells (ce55 ++ ([(u3' 12), (u3' 0), (.int .u32 tm4), (u3' 0), (u3' 0), (u3' 0), (u3' 0), (u3' 0), (u3' 0), (u3' 0), (u3' 0), (u3' 0), (u3' 0)] ++ (ce4 ++ (ce5)))) false)],
 []⟩⟩
theorem ok9_12 : N9_12.ok = true := by kernel_rfl
def N10_0 : NT := ⟨2, [86, 29], ⟨List.append ([(i6' 21), (.int .u32 tm12), .lost, .lost, .lost, (bo' true), .lost, (.ptr 6 0)]) (List.append (List.replicate 78 .lost) (List.append ([(.ptr 6 0), .lost, .lost, .lost, .lost, (.slice 7 0 63 63 13), .lost, .lost, .lost, .lost, (.slice 8 0 65 65 1), (i6' 65), (i6' 63)]) (List.replicate 16 .lost))),
 objsFrom 198 0 doorL ++ [ob9, (.cells (cex55 ++ (cex40 ++ (cex65 ++ (cex66 ++ (cex67 ++ (cex68 ++ (cex69 ++ (cex70 ++ (cex71 ++ (cex72 ++ (cex73 ++ (cex74 ++ (cex75 ++ (cex76 ++ (cex77 ++ (ce132 ++ (ce133 ++ (ce134)))))))))))))))))) false), (.cells (cex21 ++ (ce9)) false), (.cells [(.ptr 11 0)] false), (.cells [(.slice 12 0 128 128 1)] false), ob3, (.cells (cex26 ++ (cex1 ++ (ce1 ++ (ce2)))) false), (.cells (ce55 ++ ([(u3' 0), (u3' 0), (.int .u32 tm5), (u3' 0), (u3' 0), (u3' 0), (u3' 0), (u3' 0), (u3' 0), (u3' 0), (u3' 0), (u3' 0), (u3' 0)] ++ (ce4 ++ (ce5)))) false)],
 []⟩⟩
theorem ok10_0 : N10_0.ok = true := by kernel_rfl
def N10_1 : NT := ⟨2, [86, 29], ⟨List.append ([(i6' 22), (.int .u32 tm12), .lost, .lost, .lost, (bo' true), .lost, (.ptr 6 0)]) (List.append (List.replicate 78 .lost) (List.append ([(.ptr 6 0), .lost, .lost, .lost, .lost, (.slice 7 0 63 63 13), .lost, .lost, .lost, .lost, (.slice 8 0 68 68 1), (i6' 68), (i6' 63)]) (List.replicate 16 .lost))),
 objsFrom 198 0 doorL ++ [ob9, (.cells (cex56 ++ (cex40 ++ (cex65 ++ (cex66 ++ (cex67 ++ (cex68 ++ (cex69 ++ (cex70 ++ (cex71 ++ (cex72 ++ (cex73 ++ (cex74 ++ (cex75 ++ (cex76 ++ (cex77 ++ (ce132 ++ (ce133 ++ (ce134)))))))))))))))))) false), (.cells (cex21 ++ (ce9 ++ (ce19))) false), (.cells [(.ptr 11 0)] false), (.cells [(.slice 12 0 128 128 1)] false), ob3, (.cells (cex27 ++ (cex1 ++ (ce1 ++ (ce2)))) false), (.cells (ce55 ++ ([(u3' 1), (u3' 0), (.int .u32 tm5), (u3' 0), (u3' 0), (u3' 0), (u3' 0), (u3' 0), (u3' 0), (u3' 0), (u3' 0), (u3' 0), (u3' 0)] ++ (ce4 ++ (ce5)))) false)],
 []⟩⟩
theorem ok10_1 : N10_1.ok = true := by kernel_rfl
def N10_2 : NT := ⟨2, [86, 29], ⟨List.append ([(i6' 23), (.int .u32 tm12), .lost, .lost, .lost, (bo' true), .lost, (.ptr 6 0)]) (List.append (List.replicate 78 .lost) (List.append ([(.ptr 6 0), .lost, .lost, .lost, .lost, (.slice 7 0 63 63 13), .lost, .lost, .lost, .lost, (.slice 8 0 71 71 1), (i6' 71), (i6' 63)]) (List.replicate 16 .lost))),
 objsFrom 198 0 doorL ++ [ob9, (.cells (cex57 ++ (cex40 ++ (cex65 ++ (cex66 ++ (cex67 ++ (cex68 ++ (cex69 ++ (cex70 ++ (cex71 ++ (cex72 ++ (cex73 ++ (cex74 ++ (cex75 ++ (cex76 ++ (cex77 ++ (ce132 ++ (ce133 ++ (ce134)))))))))))))))))) false), (.cells (cex21 ++ (ce9 ++ (ce21))) false), (.cells [(.ptr 11 0)] false), (.cells [(.slice 12 0 128 128 1)] false), ob3, (.cells (cex28 ++ (cex1 ++ (ce1 ++ (ce2)))) false), (.cells (ce55 ++ ([(u3' 2), (u3' 0), (.int .u32 tm5), (u3' 0), (u3' 0), (u3' 0), (u3' 0), (u3' 0), (u3' 0), (u3' 0), (u3' 0), (u3' 0), (u3' 0)] ++ (ce4 ++ (ce5)))) false)],
 []⟩⟩
theorem ok10_2 : N10_2.ok = true := by kernel_rfl
def N10_3 : NT := ⟨2, [86, 29], ⟨List.append ([(i6' 24), (.int .u32 tm12), .lost, .lost, .lost, (bo' true), .lost, (.ptr 6 0)]) (List.append (List.replicate 78 .lost) (List.append ([(.ptr 6 0), .lost, .lost, .lost, .lost, (.slice 7 0 63 63 13), .lost, .lost, .lost, .lost, (.slice 8 0 74 74 1), (i6' 74), (i6' 63)]) (List.replicate 16 .lost))),
 objsFrom 198 0 doorL ++ [ob9, (.cells (cex58 ++ (cex40 ++ (cex65 ++ (cex66 ++ (cex67 ++ (cex68 ++ (cex69 ++ (cex70 ++ (cex71 ++ (cex72 ++ (cex73 ++ (cex74 ++ (cex75 ++ (cex76 ++ (cex77 ++ (ce132 ++ (ce133 ++ (ce134)))))))))))))))))) false), (.cells (cex21 ++ (ce9 ++ (ce23))) false), (.cells [(.ptr 11 0)] false), (.cells [(.slice 12 0 128 128 1)] false), ob3, (.cells (cex29 ++ (cex1 ++ (ce1 ++ (ce2)))) false), (.cells (ce55 ++ ([(u3' 3), (u3' 0), (.int .u32 tm5), (u3' 0), (u3' 0), (u3' 0), (u3' 0), (u3' 0), (u3' 0), (u3' 0), (u3' 0), (u3' 0), (u3' 0)] ++ (ce4 ++ (ce5)))) false)],
 []⟩⟩
theorem ok10_3 : N10_3.ok = true := by kernel_rfl
def N10_4 : NT := ⟨2, [86, 29], ⟨List.append ([(i6' 25), (.int .u32 tm12), .lost, .lost, .lost, (bo' true), .lost, (.ptr 6 0)]) (List.append (List.replicate 78 .lost) (List.append ([(.ptr 6 0), .lost, .lost, .lost, .lost, (.slice 7 0 63 63 13), .lost, .lost, .lost, .lost, (.slice 8 0 77 77 1), (i6' 77), (i6' 63)]) (List.replicate 16 .lost))),
 objsFrom 198 0 doorL ++ [ob9, (.cells (cex59 ++ (cex40 ++ (cex65 ++ (cex66 ++ (cex67 ++ (cex68 ++ (cex69 ++ (cex70 ++ (cex71 ++ (cex72 ++ (cex73 ++ (cex74 ++ (cex75 ++ (cex76 ++ (cex77 ++ (ce132 ++ (ce133 ++ (ce134)))))))))))))))))) false), (.cells (cex21 ++ (ce9 ++ (ce25))) false), (.cells [(.ptr 11 0)] false), (.cells [(.slice 12 0 128 128 1)] false), ob3, (.cells (cex30 ++ (cex1 ++ (ce1 ++ (ce2)))) false), (.cells (ce55 ++ ([(u3' 4), (u3' 0), (.int .u32 tm5), (u3' 0), (u3' 0), (u3' 0), (u3' 0), (u3' 0), (u3' 0), (u3' 0), (u3' 0), (u3' 0), (u3' 0)] ++ (ce4 ++ (ce5)))) false)],
 []⟩⟩
theorem ok10_4 : N10_4.ok = true := by kernel_rfl
def N10_5 : NT := ⟨2, [86, 29], ⟨List.append ([(i6' 26), (.int .u32 tm12), .lost, .lost, .lost, (bo' true), .lost, (.ptr 6 0)]) (List.append (List.replicate 78 .lost) (List.append ([(.ptr 6 0), .lost, .lost, .lost, .lost, (.slice 7 0 63 63 13), .lost, .lost, .lost, .lost, (.slice 8 0 80 80 1), (i6' 80), (i6' 63)]) (List.replicate 16 .lost))),
 objsFrom 198 0 doorL ++ [ob9, (.cells (cex60 ++ (cex40 ++ (cex65 ++ (cex66 ++ (cex67 ++ (cex68 ++ (cex69 ++ (cex70 ++ (cex71 ++ (cex72 ++ (cex73 ++ (cex74 ++ (cex75 ++ (cex76 ++ (cex77 ++ (ce132 ++ (ce133 ++ (ce134)))))))))))))))))) false), (.cells (cex21 ++ (ce9 ++ (ce9 ++ (ce27)))) false), (.cells [(.ptr 11 0)] false), (.cells [(.slice 12 0 128 128 1)] false), ob3, (.cells (cex31 ++ (cex1 ++ (ce1 ++ (ce2)))) false), (.cells (ce55 ++ ([(u3' 5), (u3' 0), (.int .u32 tm5), (u3' 0), (u3' 0), (u3' 0), (u3' 0), (u3' 0), (u3' 0), (u3' 0), (u3' 0), (u3' 0), (u3' 0)] ++ (ce4 ++ (ce5)))) false)],
 []⟩⟩
theorem ok10_5 : N10_5.ok = true := by kernel_rfl
def N10_6 : NT := ⟨2, [86, 29], ⟨List.append ([(i6' 27), (.int .u32 tm12), .lost, .lost, .lost, (bo' true), .lost, (.ptr 6 0)]) (List.append (List.replicate 78 .lost) (List.append ([(.ptr 6 0), .lost, .lost, .lost, .lost, (.slice 7 0 63 63 13), .lost, .lost, .lost, .lost, (.slice 8 0 83 83 1), (i6' 83), (i6' 63)]) (List.replicate 16 .lost))),
 objsFrom 198 0 doorL ++ [ob9, (.cells (cex61 ++ (cex40 ++ (cex65 ++ (cex66 ++ (cex67 ++ (cex68 ++ (cex69 ++ (cex70 ++ (cex71 ++ (cex72 ++ (cex73 ++ (cex74 ++ (cex75 ++ (cex76 ++ (cex77 ++ (ce132 ++ (ce133 ++ (ce134)))))))))))))))))) false), (.cells (cex21 ++ (ce9 ++ (ce9 ++ (ce29)))) false), (.cells [(.ptr 11 0)] false), (.cells [(.slice 12 0 128 128 1)] false), ob3, (.cells (cex32 ++ (cex1 ++ (ce1 ++ (ce2)))) false), (.cells (ce55 ++ ([(u3' 6), (u3' 0), (.int .u32 tm5), (u3' 0), (u3' 0), (u3' 0), (u3' 0), (u3' 0), (u3' 0), (u3' 0), (u3' 0), (u3' 0), (u3' 0)] ++ (ce4 ++ (ce5)))) false)],
 []⟩⟩
theorem ok10_6 : N10_6.ok = true := by kernel_rfl
def N10_7 : NT := ⟨2, [86, 29], ⟨List.append ([(i6' 28), (.int .u32 tm12), .lost, .lost, .lost, (bo' true), .lost, (.ptr 6 0)]) (List.append (List.replicate 78 .lost) (List.append ([(.ptr 6 0), .lost, .lost, .lost, .lost, (.slice 7 0 63 63 13), .lost, .lost, .lost, .lost, (.slice 8 0 86 86 1), (i6' 86), (i6' 63)]) (List.replicate 16 .lost))),
 objsFrom 198 0 doorL ++ [ob9, (.cells (cex62 ++ (cex40 ++ (cex65 ++ (cex66 ++ (cex67 ++ (cex68 ++ (cex69 ++ (cex70 ++ (cex71 ++ (cex72 ++ (cex73 ++ (cex74 ++ (cex75 ++ (cex76 ++ (cex77 ++ (ce132 ++ (ce133 ++ (ce134)))))))))))))))))) false), (.cells (cex21 ++ (ce9 ++ (ce9 ++ (ce6)))) false), (.cells [(.ptr 11 0)] false), (.cells [(.slice 12 0 128 128 1)] false), ob3, (.cells (cex33 ++ (cex1 ++ (ce1 ++ (ce2)))) false), (.cells (ce55 ++ ([(u3' 7), (u3' 0), (.int .u32 tm5), (u3' 0), (u3' 0), (u3' 0), (u3' 0), (u3' 0), (u3' 0), (u3' 0), (u3' 0), (u3' 0), (u3' 0)] ++ (ce4 ++ (ce5)))) false)],
 []⟩⟩
theorem ok10_7 : N10_7.ok = true := by kernel_rfl
def N10_8 : NT := ⟨2, [86, 29], ⟨List.append ([(i6' 29), (.int .u32 tm12), .lost, .lost, .lost, (bo' true), .lost, (.ptr 6 0)]) (List.append (List.replicate 78 .lost) (List.append ([(.ptr 6 0), .lost, .lost, .lost, .lost, (.slice 7 0 63 63 13), .lost, .lost, .lost, .lost, (.slice 8 0 89 89 1), (i6' 89), (i6' 63)]) (List.replicate 16 .lost))),
 objsFrom 198 0 doorL ++ [ob9, (.cells (cex63 ++ (cex40 ++ (cex65 ++ (cex66 ++ (cex67 ++ (cex68 ++ (cex69 ++ (cex70 ++ (cex71 ++ (cex72 ++ (cex73 ++ (cex74 ++ (cex75 ++ (cex76 ++ (cex77 ++ (ce132 ++ (ce133 ++ (ce134)))))))))))))))))) false), (.cells (cex21 ++ (ce9 ++ (ce9 ++ (ce7)))) false), (.cells [(.ptr 11 0)] false), (.cells [(.slice 12 0 128 128 1)] false), ob3, (.cells (cex34 ++ (cex1 ++ (ce1 ++ (ce2)))) false), (.cells (ce55 ++ ([(u3' 8), (u3' 0), (.int .u32 tm5), (u3' 0), (u3' 0), (u3' 0), (u3' 0), (u3' 0), (u3' 0), (u3' 0), (u3' 0), (u3' 0), (u3' 0)] ++ (ce4 ++ (ce5)))) false)],
 []⟩⟩
theorem ok10_8 : N10_8.ok = true := by kernel_rfl
def N10_9 : NT := ⟨2, [86, 29], ⟨List.append ([(i6' 30), (.int .u32 tm12), .lost, .lost, .lost, (bo' true), .lost, (.ptr 6 0)]) (List.append (List.replicate 78 .lost) (List.append ([(.ptr 6 0), .lost, .lost, .lost, .lost, (.slice 7 0 63 63 13), .lost, .lost, .lost, .lost, (.slice 8 0 92 92 1), (i6' 92), (i6' 63)]) (List.replicate 16 .lost))),
 objsFrom 198 0 doorL ++ [ob9, (.cells (cex64 ++ (cex40 ++ (cex65 ++ (cex66 ++ (cex67 ++ (cex68 ++ (cex69 ++ (cex70 ++ (cex71 ++ (cex72 ++ (cex73 ++ (cex74 ++ (cex75 ++ (cex76 ++ (cex77 ++ (ce132 ++ (ce133 ++ (ce134)))))))))))))))))) false), (.cells (cex21 ++ (cex35)) false), (.cells [(.ptr 11 0)] false), (.cells [(.slice 12 0 128 128 1)] false), ob3, (.cells (cex36 ++ (cex1 ++ (ce1 ++ (ce2)))) false), (.cells (ce55 ++ ([(u3' 9), (u3' 0), (.int .u32 tm5), (u3' 0), (u3' 0), (u3' 0), (u3' 0), (u3' 0), (u3' 0), (u3' 0), (u3' 0), (u3' 0), (u3' 0)] ++ (ce4 ++ (ce5)))) false)],
 []⟩⟩
theorem ok10_9 : N10_9.ok = true := by kernel_rfl
def N11_0 : NT := ⟨2, [86, 29], ⟨List.append ([(i6' 24), (.int .u32 tm12), .lost, .lost, .lost, (bo' true), .lost, (.ptr 6 0)]) (List.append (List.replicate 78 .lost) (List.append ([(.ptr 6 0), .lost, .lost, .lost, .lost, (.slice 7 0 72 72 13), .lost, .lost, .lost, .lost, (.slice 8 0 74 74 1), (i6' 74), (i6' 72)]) (List.replicate 16 .lost))),
 objsFrom 198 0 doorL ++ [ob10, (.cells (cex58 ++ (cex40 ++ (cex65 ++ (cex66 ++ (cex67 ++ (cex68 ++ (cex69 ++ (cex70 ++ (cex71 ++ (cex72 ++ (cex73 ++ (cex74 ++ (cex75 ++ (cex76 ++ (cex77 ++ (cex78 ++ (cex79 ++ (cex80)))))))))))))))))) false), (.cells (cex21 ++ (ce9 ++ (ce23))) false), (.cells [(.ptr 11 0)] false), (.cells [(.slice 12 0 128 128 1)] false), ob3, (.cells (cex29 ++ (cex1 ++ (ce1 ++ (ce2)))) false), (.cells (ce55 ++ ([(u3' 0), (u3' 0), (.int .u32 tm6), (u3' 0), (u3' 0), (u3' 0), (u3' 0), (u3' 0), (u3' 0), (u3' 0), (u3' 0), (u3' 0), (u3' 0)] ++ (ce4 ++ (ce5)))) false)],
 []⟩⟩
theorem ok11_0 : N11_0.ok = true := by kernel_rfl
def N11_1 : NT := ⟨2, [86, 29], ⟨List.append ([(i6' 25), (.int .u32 tm12), .lost, .lost, .lost, (bo' true), .lost, (.ptr 6 0)]) (List.append (List.replicate 78 .lost) (List.append ([(.ptr 6 0), .lost, .lost, .lost, .lost, (.slice 7 0 72 72 13), .lost, .lost, .lost, .lost, (.slice 8 0 77 77 1), (i6' 77), (i6' 72)]) (List.replicate 16 .lost))),
 objsFrom 198 0 doorL ++ [ob10, (.cells (cex59 ++ (cex40 ++ (cex65 ++ (cex66 ++ (cex67 ++ (cex68 ++ (cex69 ++ (cex70 ++ (cex71 ++ (cex72 ++ (cex73 ++ (cex74 ++ (cex75 ++ (cex76 ++ (cex77 ++ (cex78 ++ (cex79 ++ (cex80)))))))))))))))))) false), (.cells (cex21 ++ (ce9 ++ (ce25))) false), (.cells [(.ptr 11 0)] false), (.cells [(.slice 12 0 128 128 1)] false), ob3, (.cells (cex30 ++ (cex1 ++ (ce1 ++ (ce2)))) false), (.cells (ce55 ++ ([(u3' 1), (u3' 0), (.int .u32 tm6), (u3' 0), (u3' 0), (u3' 0), (u3' 0), (u3' 0), (u3' 0), (u3' 0), (u3' 0), (u3' 0), (u3' 0)] ++ (ce4 ++ (ce5)))) false)],
 []⟩⟩
theorem ok11_1 : N11_1.ok = true := by kernel_rfl
def N11_2 : NT := ⟨2, [86, 29], ⟨List.append ([(i6' 26), (.int .u32 tm12), .lost, .lost, .lost, (bo' true), .lost, (.ptr 6 0)]) (List.append (List.replicate 78 .lost) (List.append ([(.ptr 6 0), .lost, .lost, .lost, .lost, (.slice 7 0 72 72 13), .lost, .lost, .lost, .lost, (.slice 8 0 80 80 1), (i6' 80), (i6' 72)]) (List.replicate 16 .lost))),
 objsFrom 198 0 doorL ++ [ob10, (.cells (cex60 ++ (cex40 ++ (cex65 ++ (cex66 ++ (cex67 ++ (cex68 ++ (cex69 ++ (cex70 ++ (cex71 ++ (cex72 ++ (cex73 ++ (cex74 ++ (cex75 ++ (cex76 ++ (cex77 ++ (cex78 ++ (cex79 ++ (cex80)))))))))))))))))) false), (.cells (cex21 ++ (ce9 ++ (ce9 ++ (ce27)))) false), (.cells [(.ptr 11 0)] false), (.cells [(.slice 12 0 128 128 1)] false), ob3, (.cells (cex31 ++ (cex1 ++ (ce1 ++ (ce2)))) false), (.cells (ce55 ++ ([(u3' 2), (u3' 0), (.int .u32 tm6), (u3' 0), (u3' 0), (u3' 0), (u3' 0), (u3' 0), (u3' 0), (u3' 0), (u3' 0), (u3' 0), (u3' 0)] ++ (ce4 ++ (ce5)))) false)],
 []⟩⟩
theorem ok11_2 : N11_2.ok = true := by kernel_rfl
def N11_3 : NT := ⟨2, [86, 29], ⟨List.append ([(i6' 27), (.int .u32 tm12), .lost, .lost, .lost, (bo' true), .lost, (.ptr 6 0)]) (List.append (List.replicate 78 .lost) (List.append ([(.ptr 6 0), .lost, .lost, .lost, .lost, (.slice 7 0 72 72 13), .lost, .lost, .lost, .lost, (.slice 8 0 83 83 1), (i6' 83), (i6' 72)]) (List.replicate 16 .lost))),
 objsFrom 198 0 doorL ++ [ob10, (.cells (cex61 ++ (cex40 ++ (cex65 ++ (cex66 ++ (cex67 ++ (cex68 ++ (cex69 ++ (cex70 ++ (cex71 ++ (cex72 ++ (cex73 ++ (cex74 ++ (cex75 ++ (cex76 ++ (cex77 ++ (cex78 ++ (cex79 ++ (cex80)))))))))))))))))) false), (.cells (cex21 ++ (ce9 ++ (ce9 ++ (ce29)))) false), (.cells [(.ptr 11 0)] false), (.cells [(.slice 12 0 128 128 1)] false), ob3, (.cells (cex32 ++ (cex1 ++ (ce1 ++ (ce2)))) false), (.cells (ce55 ++ ([(u3' 3), (u3' 0), (.int .u32 tm6), (u3' 0), (u3' 0), (u3' 0), (u3' 0), (u3' 0), (u3' 0), (u3' 0), (u3' 0), (u3' 0), (u3' 0)] ++ (ce4 ++ (ce5)))) false)],
 []⟩⟩
theorem ok11_3 : N11_3.ok = true := by kernel_rfl
def N11_4 : NT := ⟨2, [86, 29], ⟨List.append ([(i6' 28), (.int .u32 tm12), .lost, .lost, .lost, (bo' true), .lost, (.ptr 6 0)]) (List.append (List.replicate 78 .lost) (List.append ([(.ptr 6 0), .lost, .lost, .lost, .lost, (.slice 7 0 72 72 13), .lost, .lost, .lost, .lost, (.slice 8 0 86 86 1), (i6' 86), (i6' 72)]) (List.replicate 16 .lost))),
 objsFrom 198 0 doorL ++ [ob10, (.cells (cex62 ++ (cex40 ++ (cex65 ++ (cex66 ++ (cex67 ++ (cex68 ++ (cex69 ++ (cex70 ++ (cex71 ++ (cex72 ++ (cex73 ++ (cex74 ++ (cex75 ++ (cex76 ++ (cex77 ++ (cex78 ++ (cex79 ++ (cex80)))))))))))))))))) false), (.cells (cex21 ++ (ce9 ++ (ce9 ++ (ce6)))) false), (.cells [(.ptr 11 0)] false), (.cells [(.slice 12 0 128 128 1)] false), ob3, (.cells (cex33 ++ (cex1 ++ (ce1 ++ (ce2)))) false), (.cells (ce55 ++ ([(u3' 4), (u3' 0), (.int .u32 tm6), (u3' 0), (u3' 0), (u3' 0), (u3' 0), (u3' 0), (u3' 0), (u3' 0), (u3' 0), (u3' 0), (u3' 0)] ++ (ce4 ++ (ce5)))) false)],
 []⟩⟩
theorem ok11_4 : N11_4.ok = true := by kernel_rfl
def N11_5 : NT := ⟨2, [86, 29], ⟨List.append ([(i6' 29), (.int .u32 tm12), .lost, .lost, .lost, (bo' true), .lost, (.ptr 6 0)]) (List.append (List.replicate 78 .lost) (List.append ([(.ptr 6 0), .lost, .lost, .lost, .lost, (.slice 7 0 72 72 13), .lost, .lost, .lost, .lost, (.slice 8 0 89 89 1), (i6' 89), (i6' 72)]) (List.replicate 16 .lost))),
 objsFrom 198 0 doorL ++ [ob10, (.cells (cex63 ++ (cex40 ++ (cex65 ++ (cex66 ++ (cex67 ++ (cex68 ++ (cex69 ++ (cex70 ++ (cex71 ++ (cex72 ++ (cex73 ++ (cex74 ++ (cex75 ++ (cex76 ++ (cex77 ++ (cex78 ++ (cex79 ++ (cex80)))))))))))))))))) false), (.cells (cex21 ++ (ce9 ++ (ce9 ++ (ce7)))) false), (.cells [(.ptr 11 0)] false), (.cells [(.slice 12 0 128 128 1)] false), ob3, (.cells (cex34 ++ (cex1 ++ (ce1 ++ (ce2)))) false), (.cells (ce55 ++ ([(u3' 5), (u3' 0), (.int .u32 tm6), (u3' 0), (u3' 0), (u3' 0), (u3' 0), (u3' 0), (u3' 0), (u3' 0), (u3' 0), (u3' 0), (u3' 0)] ++ (ce4 ++ (ce5)))) false)],
 []⟩⟩
theorem ok11_5 : N11_5.ok = true := by kernel_rfl
def N11_6 : NT := ⟨2, [86, 29], ⟨List.append ([(i6' 30), (.int .u32 tm12), .lost, .lost, .lost, (bo' true), .lost, (.ptr 6 0)]) (List.append (List.replicate 78 .lost) (List.append ([(.ptr 6 0), .lost, .lost, .lost, .lost, (.slice 7 0 72 72 13), .lost, .lost, .lost, .lost, (.slice 8 0 92 92 1), (i6' 92), (i6' 72)]) (List.replicate 16 .lost))),
 objsFrom 198 0 doorL ++ [ob10, (.cells (cex64 ++ (cex40 ++ (cex65 ++ (cex66 ++ (cex67 ++ (cex68 ++ (cex69 ++ (cex70 ++ (cex71 ++ (cex72 ++ (cex73 ++ (cex74 ++ (cex75 ++ (cex76 ++ (cex77 ++ (cex78 ++ (cex79 ++ (cex80)))))))))))))))))) false), (.cells (cex21 ++ (cex35)) false), (.cells [(.ptr 11 0)] false), (.cells [(.slice 12 0 128 128 1)] false), ob3, (.cells (cex36 ++ (cex1 ++ (ce1 ++ (ce2)))) false), (.cells (ce55 ++ ([(u3' 6), (u3' 0), (.int .u32 tm6), (u3' 0), (u3' 0), (u3' 0), (u3' 0), (u3' 0), (u3' 0), (u3' 0), (u3' 0), (u3' 0), (u3' 0)] ++ (ce4 ++ (ce5)))) false)],
 []⟩⟩
theorem ok11_6 : N11_6.ok = true := by kernel_rfl
def N12_0 : NT := ⟨2, [86, 29], ⟨List.append ([(i6' 27), (.int .u32 tm12), .lost, .lost, .lost, (bo' true), .lost, (.ptr 6 0)]) (List.append (List.replicate 78 .lost) (List.append ([(.ptr 6 0), .lost, .lost, .lost, .lost, (.slice 7 0 81 81 13), .lost, .lost, .lost, .lost, (.slice 8 0 83 83 1), (i6' 83), (i6' 81)]) (List.replicate 16 .lost))),
 objsFrom 198 0 doorL ++ [ob11, (.cells (cex61 ++ (cex40 ++ (cex65 ++ (cex66 ++ (cex67 ++ (cex68 ++ (cex69 ++ (cex70 ++ (cex71 ++ (cex72 ++ (cex73 ++ (cex74 ++ (cex75 ++ (cex76 ++ (cex77 ++ (cex78 ++ (cex79 ++ (cex80 ++ (cex81 ++ (cex82 ++ (ce152))))))))))))))))))))) false), (.cells (cex21 ++ (ce9 ++ (ce9 ++ (ce29)))) false), (.cells [(.ptr 11 0)] false), (.cells [(.slice 12 0 128 128 1)] false), ob3, (.cells (cex32 ++ (cex1 ++ (ce1 ++ (ce2)))) false), (.cells (ce55 ++ ([(u3' 0), (u3' 0), (.int .u32 tm7), (u3' 0), (u3' 0), (u3' 0), (u3' 0), (u3' 0), (u3' 0), (u3' 0), (u3' 0), (u3' 0), (u3' 0)] ++ (ce4 ++ (ce5)))) false)],
 []⟩⟩
theorem ok12_0 : N12_0.ok = true := by kernel_rfl
def N12_1 : NT := ⟨2, [86, 29], ⟨List.append ([(i6' 28), (.int .u32 tm12), .lost, .lost, .lost, (bo' true), .lost, (.ptr 6 0)]) (List.append (List.replicate 78 .lost) (List.append ([(.ptr 6 0), .lost, .lost, .lost, .lost, (.slice 7 0 81 81 13), .lost, .lost, .lost, .lost, (.slice 8 0 86 86 1), (i6' 86), (i6' 81)]) (List.replicate 16 .lost))),
 objsFrom 198 0 doorL ++ [ob11, (.cells (cex62 ++ (cex40 ++ (cex65 ++ (cex66 ++ (cex67 ++ (cex68 ++ (cex69 ++ (cex70 ++ (cex71 ++ (cex72 ++ (cex73 ++ (cex74 ++ (cex75 ++ (cex76 ++ (cex77 ++ (cex78 ++ (cex79 ++ (cex80 ++ (cex81 ++ (cex82 ++ (ce152))))))))))))))))))))) false), (.cells (cex21 ++ (ce9 ++ (ce9 ++ (ce6)))) false), (.cells [(.ptr 11 0)] false), (.cells [(.slice 12 0 128 128 1)] false), ob3, (.cells (cex33 ++ (cex1 ++ (ce1 ++ (ce2)))) false), (.cells (ce55 ++ ([(u3' 1), (u3' 0), (.int .u32 tm7), (u3' 0), (u3' 0), (u3' 0), (u3' 0), (u3' 0), (u3' 0), (u3' 0), (u3' 0), (u3' 0), (u3' 0)] ++ (ce4 ++ (ce5)))) false)],
 []⟩⟩
theorem ok12_1 : N12_1.ok = true := by kernel_rfl
def N12_2 : NT := ⟨2, [86, 29], ⟨List.append ([(i6' 29), (.int .u32 tm12), .lost, .lost, .lost, (bo' true), .lost, (.ptr 6 0)]) (List.append (List.replicate 78 .lost) (List.append ([(.ptr 6 0), .lost, .lost, .lost, .lost, (.slice 7 0 81 81 13), .lost, .lost, .lost, .lost, (.slice 8 0 89 89 1), (i6' 89), (i6' 81)]) (List.replicate 16 .lost))),
 objsFrom 198 0 doorL ++ [ob11, (.cells (cex63 ++ (cex40 ++ (cex65 ++ (cex66 ++ (cex67 ++ (cex68 ++ (cex69 ++ (cex70 ++ (cex71 ++ (cex72 ++ (cex73 ++ (cex74 ++ (cex75 ++ (cex76 ++ (cex77 ++ (cex78 ++ (cex79 ++ (cex80 ++ (cex81 ++ (cex82 ++ (ce152))))))))))))))))))))) false), (.cells (cex21 ++ (ce9 ++ (ce9 ++ (ce7)))) false), (.cells [(.ptr 11 0)] false), (.cells [(.slice 12 0 128 128 1)] false), ob3, (.cells (cex34 ++ (cex1 ++ (ce1 ++ (ce2)))) false), (.cells (ce55 ++ ([(u3' 2), (u3' 0), (.int .u32 tm7), (u3' 0), (u3' 0), (u3' 0), (u3' 0), (u3' 0), (u3' 0), (u3' 0), (u3' 0), (u3' 0), (u3' 0)] ++ (ce4 ++ (ce5)))) false)],
 []⟩⟩
theorem ok12_2 : N12_2.ok = true := by kernel_rfl
def N12_3 : NT := ⟨2, [86, 29], ⟨List.append ([(i6' 30), (.int .u32 tm12), .lost, .lost, .lost, (bo' true), .lost, (.ptr 6 0)]) (List.append (List.replicate 78 .lost) (List.append ([(.ptr 6 0), .lost, .lost, .lost, .lost, (.slice 7 0 81 81 13), .lost, .lost, .lost, .lost, (.slice 8 0 92 92 1), (i6' 92), (i6' 81)]) (List.replicate 16 .lost))),
 objsFrom 198 0 doorL ++ [ob11, (.cells (cex64 ++ (cex40 ++ (cex65 ++ (cex66 ++ (cex67 ++ (cex68 ++ (cex69 ++ (cex70 ++ (cex71 ++ (cex72 ++ (cex73 ++ (cex74 ++ (cex75 ++ (cex76 ++ (cex77 ++ (cex78 ++ (cex79 ++ (cex80 ++ (cex81 ++ (cex82 ++ (ce152))))))))))))))))))))) false), (.cells (cex21 ++ (cex35)) false), (.cells [(.ptr 11 0)] false), (.cells [(.slice 12 0 128 128 1)] false), ob3, (.cells (cex36 ++ (cex1 ++ (ce1 ++ (ce2)))) false), (.cells (ce55 ++ ([(u3' 3), (u3' 0), (.int .u32 tm7), (u3' 0), (u3' 0), (u3' 0), (u3' 0), (u3' 0), (u3' 0), (u3' 0), (u3' 0), (u3' 0), (u3' 0)] ++ (ce4 ++ (ce5)))) false)],
 []⟩⟩
theorem ok12_3 : N12_3.ok = true := by kernel_rfl
def N13_0 : NT := ⟨2, [86, 29], ⟨List.append ([(i6' 30), (.int .u32 tm12), .lost, .lost, .lost, (bo' true), .lost, (.ptr 6 0)]) (List.append (List.replicate 78 .lost) (List.append ([(.ptr 6 0), .lost, .lost, .lost, .lost, (.slice 7 0 90 90 13), .lost, .lost, .lost, .lost, (.slice 8 0 92 92 1), (i6' 92), (i6' 90)]) (List.replicate 16 .lost))),
 objsFrom 198 0 doorL ++ [(.cells [(.slice 9 0 1 1 1), (.ptr 10 0), (i6' 180)] false), (.cells (cex64 ++ (cex40 ++ (cex65 ++ (cex66 ++ (cex67 ++ (cex68 ++ (cex69 ++ (cex70 ++ (cex71 ++ (cex72 ++ (cex73 ++ (cex74 ++ (cex75 ++ (cex76 ++ (cex77 ++ (cex78 ++ (cex79 ++ (cex80 ++ (cex81 ++ (cex82 ++ (ce152 ++ ([(i6' 1), (u3' 12), (u3' 4261453027), (u3' 12), (u3' 0), (u3' 0), .nilSlice, .nilSlice, (u3' 0), (u3' 0), (bo' false), (i6' 163), (i6' 164), (i6' 1), (u3' 4), (.int .u32 tm0), (u3' 4), (u3' 0), (u3' 0), .nilSlice, .nilSlice, (u3' 0), (u3' 0), (bo' false), (i6' 165), (i6' 166), (i6' 1), (u3' 8), (u3' 4293951635), (u3' 8), (u3' 0), (u3' 0), .nilSlice, .nilSlice, (u3' 0), (u3' 0), (bo' false), (i6' 167), (i6' 168), (i6' 1), (u3' 12), (u3' 4261453027), (u3' 12), (u3' 0), (u3' 0), .nilSlice, .nilSlice, (u3' 0), (u3' 0), (bo' false), (i6' 169), (i6' 170), (i6' 1), (u3' 4), (.int .u32 tm0), (u3' 4), (u3' 0), (u3' 0), .nilSlice, .nilSlice, (u3' 0), (u3' 0), (bo' false), (i6' 171), (i6' 172), (i6' 1), (u3' 8), (u3' 4293951635), (u3' 8), (u3' 0), (u3' 0), .nilSlice, .nilSlice, (u3' 0), (u3' 0), (bo' false), (i6' 173), (i6' 174), (i6' 1), (u3' 12), (u3' 4261453027), (u3' 12), (u3' 0), (u3' 0), .nilSlice, .nilSlice, (u3' 0), (u3' 0), (bo' false), (i6' 175), (i6' 176), (i6' 1), (u3' 4), (.int .u32 tm0), (u3' 4), (u3' 0), (u3' 0), .nilSlice, .nilSlice, (u3' 0), (u3' 0), (bo' false), (i6' 177), (i6' 178), (i6' 1), (u3' 8), (u3' 4293951635), (u3' 8), (u3' 0), (u3' 0), .nilSlice, .nilSlice, (u3' 0), (u3' 0), (bo' false), (i6' 179), (i6' 180)])))))))))))))))))))))) false), (.cells (cex21 ++ (cex35)) false), (.cells [(.ptr 11 0)] false), (.cells [(.slice 12 0 128 128 1)] false), ob3, (.cells (cex36 ++ (cex1 ++ (ce1 ++ (ce2)))) false), (.cells (ce55 ++ ([(u3' 0), (u3' 0), (.int .u32 (.bin .mul .u32 (.lit 30) tm12)), (u3' 0), (u3' 0), (u3' 0), (u3' 0), (u3' 0), (u3' 0), (u3' 0), (u3' 0), (u3' 0), (u3' 0)] ++ (ce4 ++ (ce5)))) false)],
 []⟩⟩
theorem ok13_0 : N13_0.ok = true := by kernel_rfl
abbrev Ns0_0 : List NT := [N1_0]
noncomputable def M0_0 : TT Out := evDC CL 2000 Dc T0_0.fr T0_0.sp
abbrev Ns1_0 : List NT := [N2_0, N2_1, N2_2, N2_3, N2_4, N2_5, N2_6, N2_7, N2_8, N2_9, N2_10, N2_11, N2_12, N2_13, N2_14, N2_15, N2_16, N2_17, N2_18, N2_19, N2_20, N2_21, N2_22, N2_23, N2_24, N2_25, N2_26, N2_27, N2_28, N2_29]
noncomputable def M1_0 : TT Out := evFrom CL 2000 N1_0.m Dc N1_0.frs N1_0.T.sp
abbrev Ns2_0 : List NT := [N3_0]
noncomputable def M2_0 : TT Out := evFrom CL 2000 N2_0.m Dc N2_0.frs N2_0.T.sp
abbrev Ns2_1 : List NT := [N3_1]
noncomputable def M2_1 : TT Out := evFrom CL 2000 N2_1.m Dc N2_1.frs N2_1.T.sp
abbrev Ns2_2 : List NT := [N3_2]
noncomputable def M2_2 : TT Out := evFrom CL 2000 N2_2.m Dc N2_2.frs N2_2.T.sp
abbrev Ns2_3 : List NT := [N3_3]
noncomputable def M2_3 : TT Out := evFrom CL 2000 N2_3.m Dc N2_3.frs N2_3.T.sp
abbrev Ns2_4 : List NT := [N3_4]
noncomputable def M2_4 : TT Out := evFrom CL 2000 N2_4.m Dc N2_4.frs N2_4.T.sp
abbrev Ns2_5 : List NT := [N3_5]
noncomputable def M2_5 : TT Out := evFrom CL 2000 N2_5.m Dc N2_5.frs N2_5.T.sp
abbrev Ns2_6 : List NT := [N3_6]
noncomputable def M2_6 : TT Out := evFrom CL 2000 N2_6.m Dc N2_6.frs N2_6.T.sp
abbrev Ns2_7 : List NT := [N3_7]
noncomputable def M2_7 : TT Out := evFrom CL 2000 N2_7.m Dc N2_7.frs N2_7.T.sp
abbrev Ns2_8 : List NT := [N3_8]
noncomputable def M2_8 : TT Out := evFrom CL 2000 N2_8.m Dc N2_8.frs N2_8.T.sp
abbrev Ns2_9 : List NT := [N3_9]
noncomputable def M2_9 : TT Out := evFrom CL 2000 N2_9.m Dc N2_9.frs N2_9.T.sp
abbrev Ns2_10 : List NT := [N3_10]
noncomputable def M2_10 : TT Out := evFrom CL 2000 N2_10.m Dc N2_10.frs N2_10.T.sp
abbrev Ns2_11 : List NT := [N3_11]
noncomputable def M2_11 : TT Out := evFrom CL 2000 N2_11.m Dc N2_11.frs N2_11.T.sp
abbrev Ns2_12 : List NT := [N3_12]
noncomputable def M2_12 : TT Out := evFrom CL 2000 N2_12.m Dc N2_12.frs N2_12.T.sp
abbrev Ns2_13 : List NT := [N3_13]
noncomputable def M2_13 : TT Out := evFrom CL 2000 N2_13.m Dc N2_13.frs N2_13.T.sp
abbrev Ns2_14 : List NT := [N3_14]
noncomputable def M2_14 : TT Out := evFrom CL 2000 N2_14.m Dc N2_14.frs N2_14.T.sp
abbrev Ns2_15 : List NT := [N3_15]
noncomputable def M2_15 : TT Out := evFrom CL 2000 N2_15.m Dc N2_15.frs N2_15.T.sp
abbrev Ns2_16 : List NT := [N3_16]
noncomputable def M2_16 : TT Out := evFrom CL 2000 N2_16.m Dc N2_16.frs N2_16.T.sp
abbrev Ns2_17 : List NT := [N3_17]
noncomputable def M2_17 : TT Out := evFrom CL 2000 N2_17.m Dc N2_17.frs N2_17.T.sp
abbrev Ns2_18 : List NT := [N3_18]
noncomputable def M2_18 : TT Out := evFrom CL 2000 N2_18.m Dc N2_18.frs N2_18.T.sp
abbrev Ns2_19 : List NT := [N3_19]
noncomputable def M2_19 : TT Out := evFrom CL 2000 N2_19.m Dc N2_19.frs N2_19.T.sp
abbrev Ns2_20 : List NT := [N3_20]
noncomputable def M2_20 : TT Out := evFrom CL 2000 N2_20.m Dc N2_20.frs N2_20.T.sp
abbrev Ns2_21 : List NT := [N3_21]
noncomputable def M2_21 : TT Out := evFrom CL 2000 N2_21.m Dc N2_21.frs N2_21.T.sp
abbrev Ns2_22 : List NT := [N3_22]
noncomputable def M2_22 : TT Out := evFrom CL 2000 N2_22.m Dc N2_22.frs N2_22.T.sp
abbrev Ns2_23 : List NT := [N3_23]
noncomputable def M2_23 : TT Out := evFrom CL 2000 N2_23.m Dc N2_23.frs N2_23.T.sp
abbrev Ns2_24 : List NT := [N3_24]
noncomputable def M2_24 : TT Out := evFrom CL 2000 N2_24.m Dc N2_24.frs N2_24.T.sp
abbrev Ns2_25 : List NT := [N3_25]
noncomputable def M2_25 : TT Out := evFrom CL 2000 N2_25.m Dc N2_25.frs N2_25.T.sp
abbrev Ns2_26 : List NT := [N3_26]
noncomputable def M2_26 : TT Out := evFrom CL 2000 N2_26.m Dc N2_26.frs N2_26.T.sp
abbrev Ns2_27 : List NT := [N3_27]
noncomputable def M2_27 : TT Out := evFrom CL 2000 N2_27.m Dc N2_27.frs N2_27.T.sp
abbrev Ns2_28 : List NT := [N3_28]
noncomputable def M2_28 : TT Out := evFrom CL 2000 N2_28.m Dc N2_28.frs N2_28.T.sp
abbrev Ns2_29 : List NT := [N3_29]
noncomputable def M2_29 : TT Out := evFrom CL 2000 N2_29.m Dc N2_29.frs N2_29.T.sp
abbrev Ns3_0 : List NT := []
noncomputable def M3_0 : TT Out := evFrom CL 2000 N3_0.m Dc N3_0.frs N3_0.T.sp
abbrev Ns3_1 : List NT := []
noncomputable def M3_1 : TT Out := evFrom CL 2000 N3_1.m Dc N3_1.frs N3_1.T.sp
abbrev Ns3_2 : List NT := [N4_0]
noncomputable def M3_2 : TT Out := evFrom CL 2000 N3_2.m Dc N3_2.frs N3_2.T.sp
abbrev Ns3_3 : List NT := [N4_1]
noncomputable def M3_3 : TT Out := evFrom CL 2000 N3_3.m Dc N3_3.frs N3_3.T.sp
abbrev Ns3_4 : List NT := [N4_2]
noncomputable def M3_4 : TT Out := evFrom CL 2000 N3_4.m Dc N3_4.frs N3_4.T.sp
abbrev Ns3_5 : List NT := [N4_3]
noncomputable def M3_5 : TT Out := evFrom CL 2000 N3_5.m Dc N3_5.frs N3_5.T.sp
abbrev Ns3_6 : List NT := [N4_4]
noncomputable def M3_6 : TT Out := evFrom CL 2000 N3_6.m Dc N3_6.frs N3_6.T.sp
abbrev Ns3_7 : List NT := [N4_5]
noncomputable def M3_7 : TT Out := evFrom CL 2000 N3_7.m Dc N3_7.frs N3_7.T.sp
abbrev Ns3_8 : List NT := [N4_6]
noncomputable def M3_8 : TT Out := evFrom CL 2000 N3_8.m Dc N3_8.frs N3_8.T.sp
abbrev Ns3_9 : List NT := [N4_7]
noncomputable def M3_9 : TT Out := evFrom CL 2000 N3_9.m Dc N3_9.frs N3_9.T.sp
abbrev Ns3_10 : List NT := [N4_8]
noncomputable def M3_10 : TT Out := evFrom CL 2000 N3_10.m Dc N3_10.frs N3_10.T.sp
abbrev Ns3_11 : List NT := [N4_9]
noncomputable def M3_11 : TT Out := evFrom CL 2000 N3_11.m Dc N3_11.frs N3_11.T.sp
abbrev Ns3_12 : List NT := [N4_10]
noncomputable def M3_12 : TT Out := evFrom CL 2000 N3_12.m Dc N3_12.frs N3_12.T.sp
abbrev Ns3_13 : List NT := [N4_11]
noncomputable def M3_13 : TT Out := evFrom CL 2000 N3_13.m Dc N3_13.frs N3_13.T.sp
abbrev Ns3_14 : List NT := [N4_12]
noncomputable def M3_14 : TT Out := evFrom CL 2000 N3_14.m Dc N3_14.frs N3_14.T.sp
abbrev Ns3_15 : List NT := [N4_13]
noncomputable def M3_15 : TT Out := evFrom CL 2000 N3_15.m Dc N3_15.frs N3_15.T.sp
abbrev Ns3_16 : List NT := [N4_14]
noncomputable def M3_16 : TT Out := evFrom CL 2000 N3_16.m Dc N3_16.frs N3_16.T.sp
abbrev Ns3_17 : List NT := [N4_15]
noncomputable def M3_17 : TT Out := evFrom CL 2000 N3_17.m Dc N3_17.frs N3_17.T.sp
abbrev Ns3_18 : List NT := [N4_16]
noncomputable def M3_18 : TT Out := evFrom CL 2000 N3_18.m Dc N3_18.frs N3_18.T.sp
abbrev Ns3_19 : List NT := [N4_17]
noncomputable def M3_19 : TT Out := evFrom CL 2000 N3_19.m Dc N3_19.frs N3_19.T.sp
abbrev Ns3_20 : List NT := [N4_18]
noncomputable def M3_20 : TT Out := evFrom CL 2000 N3_20.m Dc N3_20.frs N3_20.T.sp
abbrev Ns3_21 : List NT := [N4_19]
noncomputable def M3_21 : TT Out := evFrom CL 2000 N3_21.m Dc N3_21.frs N3_21.T.sp
abbrev Ns3_22 : List NT := [N4_20]
noncomputable def M3_22 : TT Out := evFrom CL 2000 N3_22.m Dc N3_22.frs N3_22.T.sp
abbrev Ns3_23 : List NT := [N4_21]
noncomputable def M3_23 : TT Out := evFrom CL 2000 N3_23.m Dc N3_23.frs N3_23.T.sp
abbrev Ns3_24 : List NT := [N4_22]
noncomputable def M3_24 : TT Out := evFrom CL 2000 N3_24.m Dc N3_24.frs N3_24.T.sp
abbrev Ns3_25 : List NT := [N4_23]
noncomputable def M3_25 : TT Out := evFrom CL 2000 N3_25.m Dc N3_25.frs N3_25.T.sp
abbrev Ns3_26 : List NT := [N4_24]
noncomputable def M3_26 : TT Out := evFrom CL 2000 N3_26.m Dc N3_26.frs N3_26.T.sp
abbrev Ns3_27 : List NT := [N4_25]
noncomputable def M3_27 : TT Out := evFrom CL 2000 N3_27.m Dc N3_27.frs N3_27.T.sp
abbrev Ns3_28 : List NT := [N4_26]
noncomputable def M3_28 : TT Out := evFrom CL 2000 N3_28.m Dc N3_28.frs N3_28.T.sp
abbrev Ns3_29 : List NT := [N4_27]
noncomputable def M3_29 : TT Out := evFrom CL 2000 N3_29.m Dc N3_29.frs N3_29.T.sp
abbrev Ns4_0 : List NT := []
noncomputable def M4_0 : TT Out := evFrom CL 2000 N4_0.m Dc N4_0.frs N4_0.T.sp
abbrev Ns4_1 : List NT := []
noncomputable def M4_1 : TT Out := evFrom CL 2000 N4_1.m Dc N4_1.frs N4_1.T.sp
abbrev Ns4_2 : List NT := []
noncomputable def M4_2 : TT Out := evFrom CL 2000 N4_2.m Dc N4_2.frs N4_2.T.sp
abbrev Ns4_3 : List NT := [N5_0]
noncomputable def M4_3 : TT Out := evFrom CL 2000 N4_3.m Dc N4_3.frs N4_3.T.sp
abbrev Ns4_4 : List NT := [N5_1]
noncomputable def M4_4 : TT Out := evFrom CL 2000 N4_4.m Dc N4_4.frs N4_4.T.sp
abbrev Ns4_5 : List NT := [N5_2]
noncomputable def M4_5 : TT Out := evFrom CL 2000 N4_5.m Dc N4_5.frs N4_5.T.sp
abbrev Ns4_6 : List NT := [N5_3]
noncomputable def M4_6 : TT Out := evFrom CL 2000 N4_6.m Dc N4_6.frs N4_6.T.sp
abbrev Ns4_7 : List NT := [N5_4]
noncomputable def M4_7 : TT Out := evFrom CL 2000 N4_7.m Dc N4_7.frs N4_7.T.sp
abbrev Ns4_8 : List NT := [N5_5]
noncomputable def M4_8 : TT Out := evFrom CL 2000 N4_8.m Dc N4_8.frs N4_8.T.sp
abbrev Ns4_9 : List NT := [N5_6]
noncomputable def M4_9 : TT Out := evFrom CL 2000 N4_9.m Dc N4_9.frs N4_9.T.sp
abbrev Ns4_10 : List NT := [N5_7]
noncomputable def M4_10 : TT Out := evFrom CL 2000 N4_10.m Dc N4_10.frs N4_10.T.sp
abbrev Ns4_11 : List NT := [N5_8]
noncomputable def M4_11 : TT Out := evFrom CL 2000 N4_11.m Dc N4_11.frs N4_11.T.sp
abbrev Ns4_12 : List NT := [N5_9]
noncomputable def M4_12 : TT Out := evFrom CL 2000 N4_12.m Dc N4_12.frs N4_12.T.sp
abbrev Ns4_13 : List NT := [N5_10]
noncomputable def M4_13 : TT Out := evFrom CL 2000 N4_13.m Dc N4_13.frs N4_13.T.sp
abbrev Ns4_14 : List NT := [N5_11]
noncomputable def M4_14 : TT Out := evFrom CL 2000 N4_14.m Dc N4_14.frs N4_14.T.sp
abbrev Ns4_15 : List NT := [N5_12]
noncomputable def M4_15 : TT Out := evFrom CL 2000 N4_15.m Dc N4_15.frs N4_15.T.sp
abbrev Ns4_16 : List NT := [N5_13]
noncomputable def M4_16 : TT Out := evFrom CL 2000 N4_16.m Dc N4_16.frs N4_16.T.sp
abbrev Ns4_17 : List NT := [N5_14]
noncomputable def M4_17 : TT Out := evFrom CL 2000 N4_17.m Dc N4_17.frs N4_17.T.sp
abbrev Ns4_18 : List NT := [N5_15]
noncomputable def M4_18 : TT Out := evFrom CL 2000 N4_18.m Dc N4_18.frs N4_18.T.sp
abbrev Ns4_19 : List NT := [N5_16]
noncomputable def M4_19 : TT Out := evFrom CL 2000 N4_19.m Dc N4_19.frs N4_19.T.sp
abbrev Ns4_20 : List NT := [N5_17]
noncomputable def M4_20 : TT Out := evFrom CL 2000 N4_20.m Dc N4_20.frs N4_20.T.sp
abbrev Ns4_21 : List NT := [N5_18]
noncomputable def M4_21 : TT Out := evFrom CL 2000 N4_21.m Dc N4_21.frs N4_21.T.sp
abbrev Ns4_22 : List NT := [N5_19]
noncomputable def M4_22 : TT Out := evFrom CL 2000 N4_22.m Dc N4_22.frs N4_22.T.sp
abbrev Ns4_23 : List NT := [N5_20]
noncomputable def M4_23 : TT Out := evFrom CL 2000 N4_23.m Dc N4_23.frs N4_23.T.sp
abbrev Ns4_24 : List NT := [N5_21]
noncomputable def M4_24 : TT Out := evFrom CL 2000 N4_24.m Dc N4_24.frs N4_24.T.sp
abbrev Ns4_25 : List NT := [N5_22]
noncomputable def M4_25 : TT Out := evFrom CL 2000 N4_25.m Dc N4_25.frs N4_25.T.sp
abbrev Ns4_26 : List NT := [N5_23]
noncomputable def M4_26 : TT Out := evFrom CL 2000 N4_26.m Dc N4_26.frs N4_26.T.sp
abbrev Ns4_27 : List NT := [N5_24]
noncomputable def M4_27 : TT Out := evFrom CL 2000 N4_27.m Dc N4_27.frs N4_27.T.sp
abbrev Ns5_0 : List NT := []
noncomputable def M5_0 : TT Out := evFrom CL 2000 N5_0.m Dc N5_0.frs N5_0.T.sp
abbrev Ns5_1 : List NT := []
noncomputable def M5_1 : TT Out := evFrom CL 2000 N5_1.m Dc N5_1.frs N5_1.T.sp
abbrev Ns5_2 : List NT := []
noncomputable def M5_2 : TT Out := evFrom CL 2000 N5_2.m Dc N5_2.frs N5_2.T.sp
abbrev Ns5_3 : List NT := [N6_0]
noncomputable def M5_3 : TT Out := evFrom CL 2000 N5_3.m Dc N5_3.frs N5_3.T.sp
abbrev Ns5_4 : List NT := [N6_1]
noncomputable def M5_4 : TT Out := evFrom CL 2000 N5_4.m Dc N5_4.frs N5_4.T.sp
abbrev Ns5_5 : List NT := [N6_2]
noncomputable def M5_5 : TT Out := evFrom CL 2000 N5_5.m Dc N5_5.frs N5_5.T.sp
abbrev Ns5_6 : List NT := [N6_3]
noncomputable def M5_6 : TT Out := evFrom CL 2000 N5_6.m Dc N5_6.frs N5_6.T.sp
abbrev Ns5_7 : List NT := [N6_4]
noncomputable def M5_7 : TT Out := evFrom CL 2000 N5_7.m Dc N5_7.frs N5_7.T.sp
abbrev Ns5_8 : List NT := [N6_5]
noncomputable def M5_8 : TT Out := evFrom CL 2000 N5_8.m Dc N5_8.frs N5_8.T.sp
abbrev Ns5_9 : List NT := [N6_6]
noncomputable def M5_9 : TT Out := evFrom CL 2000 N5_9.m Dc N5_9.frs N5_9.T.sp
abbrev Ns5_10 : List NT := [N6_7]
noncomputable def M5_10 : TT Out := evFrom CL 2000 N5_10.m Dc N5_10.frs N5_10.T.sp
abbrev Ns5_11 : List NT := [N6_8]
noncomputable def M5_11 : TT Out := evFrom CL 2000 N5_11.m Dc N5_11.frs N5_11.T.sp
abbrev Ns5_12 : List NT := [N6_9]
noncomputable def M5_12 : TT Out := evFrom CL 2000 N5_12.m Dc N5_12.frs N5_12.T.sp
abbrev Ns5_13 : List NT := [N6_10]
noncomputable def M5_13 : TT Out := evFrom CL 2000 N5_13.m Dc N5_13.frs N5_13.T.sp
abbrev Ns5_14 : List NT := [N6_11]
noncomputable def M5_14 : TT Out := evFrom CL 2000 N5_14.m Dc N5_14.frs N5_14.T.sp
abbrev Ns5_15 : List NT := [N6_12]
noncomputable def M5_15 : TT Out := evFrom CL 2000 N5_15.m Dc N5_15.frs N5_15.T.sp
abbrev Ns5_16 : List NT := [N6_13]
noncomputable def M5_16 : TT Out := evFrom CL 2000 N5_16.m Dc N5_16.frs N5_16.T.sp
abbrev Ns5_17 : List NT := [N6_14]
noncomputable def M5_17 : TT Out := evFrom CL 2000 N5_17.m Dc N5_17.frs N5_17.T.sp
abbrev Ns5_18 : List NT := [N6_15]
noncomputable def M5_18 : TT Out := evFrom CL 2000 N5_18.m Dc N5_18.frs N5_18.T.sp
abbrev Ns5_19 : List NT := [N6_16]
noncomputable def M5_19 : TT Out := evFrom CL 2000 N5_19.m Dc N5_19.frs N5_19.T.sp
abbrev Ns5_20 : List NT := [N6_17]
noncomputable def M5_20 : TT Out := evFrom CL 2000 N5_20.m Dc N5_20.frs N5_20.T.sp
abbrev Ns5_21 : List NT := [N6_18]
noncomputable def M5_21 : TT Out := evFrom CL 2000 N5_21.m Dc N5_21.frs N5_21.T.sp
abbrev Ns5_22 : List NT := [N6_19]
noncomputable def M5_22 : TT Out := evFrom CL 2000 N5_22.m Dc N5_22.frs N5_22.T.sp
abbrev Ns5_23 : List NT := [N6_20]
noncomputable def M5_23 : TT Out := evFrom CL 2000 N5_23.m Dc N5_23.frs N5_23.T.sp
abbrev Ns5_24 : List NT := [N6_21]
noncomputable def M5_24 : TT Out := evFrom CL 2000 N5_24.m Dc N5_24.frs N5_24.T.sp
abbrev Ns6_0 : List NT := []
noncomputable def M6_0 : TT Out := evFrom CL 2000 N6_0.m Dc N6_0.frs N6_0.T.sp
abbrev Ns6_1 : List NT := []
noncomputable def M6_1 : TT Out := evFrom CL 2000 N6_1.m Dc N6_1.frs N6_1.T.sp
abbrev Ns6_2 : List NT := []
noncomputable def M6_2 : TT Out := evFrom CL 2000 N6_2.m Dc N6_2.frs N6_2.T.sp
abbrev Ns6_3 : List NT := [N7_0]
noncomputable def M6_3 : TT Out := evFrom CL 2000 N6_3.m Dc N6_3.frs N6_3.T.sp
abbrev Ns6_4 : List NT := [N7_1]
noncomputable def M6_4 : TT Out := evFrom CL 2000 N6_4.m Dc N6_4.frs N6_4.T.sp
abbrev Ns6_5 : List NT := [N7_2]
noncomputable def M6_5 : TT Out := evFrom CL 2000 N6_5.m Dc N6_5.frs N6_5.T.sp
abbrev Ns6_6 : List NT := [N7_3]
noncomputable def M6_6 : TT Out := evFrom CL 2000 N6_6.m Dc N6_6.frs N6_6.T.sp
abbrev Ns6_7 : List NT := [N7_4]
noncomputable def M6_7 : TT Out := evFrom CL 2000 N6_7.m Dc N6_7.frs N6_7.T.sp
abbrev Ns6_8 : List NT := [N7_5]
noncomputable def M6_8 : TT Out := evFrom CL 2000 N6_8.m Dc N6_8.frs N6_8.T.sp
abbrev Ns6_9 : List NT := [N7_6]
noncomputable def M6_9 : TT Out := evFrom CL 2000 N6_9.m Dc N6_9.frs N6_9.T.sp
abbrev Ns6_10 : List NT := [N7_7]
noncomputable def M6_10 : TT Out := evFrom CL 2000 N6_10.m Dc N6_10.frs N6_10.T.sp
abbrev Ns6_11 : List NT := [N7_8]
noncomputable def M6_11 : TT Out := evFrom CL 2000 N6_11.m Dc N6_11.frs N6_11.T.sp
abbrev Ns6_12 : List NT := [N7_9]
noncomputable def M6_12 : TT Out := evFrom CL 2000 N6_12.m Dc N6_12.frs N6_12.T.sp
abbrev Ns6_13 : List NT := [N7_10]
noncomputable def M6_13 : TT Out := evFrom CL 2000 N6_13.m Dc N6_13.frs N6_13.T.sp
abbrev Ns6_14 : List NT := [N7_11]
noncomputable def M6_14 : TT Out := evFrom CL 2000 N6_14.m Dc N6_14.frs N6_14.T.sp
abbrev Ns6_15 : List NT := [N7_12]
noncomputable def M6_15 : TT Out := evFrom CL 2000 N6_15.m Dc N6_15.frs N6_15.T.sp
abbrev Ns6_16 : List NT := [N7_13]
noncomputable def M6_16 : TT Out := evFrom CL 2000 N6_16.m Dc N6_16.frs N6_16.T.sp
abbrev Ns6_17 : List NT := [N7_14]
noncomputable def M6_17 : TT Out := evFrom CL 2000 N6_17.m Dc N6_17.frs N6_17.T.sp
abbrev Ns6_18 : List NT := [N7_15]
noncomputable def M6_18 : TT Out := evFrom CL 2000 N6_18.m Dc N6_18.frs N6_18.T.sp
abbrev Ns6_19 : List NT := [N7_16]
noncomputable def M6_19 : TT Out := evFrom CL 2000 N6_19.m Dc N6_19.frs N6_19.T.sp
abbrev Ns6_20 : List NT := [N7_17]
noncomputable def M6_20 : TT Out := evFrom CL 2000 N6_20.m Dc N6_20.frs N6_20.T.sp
abbrev Ns6_21 : List NT := [N7_18]
noncomputable def M6_21 : TT Out := evFrom CL 2000 N6_21.m Dc N6_21.frs N6_21.T.sp
abbrev Ns7_0 : List NT := []
noncomputable def M7_0 : TT Out := evFrom CL 2000 N7_0.m Dc N7_0.frs N7_0.T.sp
abbrev Ns7_1 : List NT := []
noncomputable def M7_1 : TT Out := evFrom CL 2000 N7_1.m Dc N7_1.frs N7_1.T.sp
abbrev Ns7_2 : List NT := []
noncomputable def M7_2 : TT Out := evFrom CL 2000 N7_2.m Dc N7_2.frs N7_2.T.sp
abbrev Ns7_3 : List NT := [N8_0]
noncomputable def M7_3 : TT Out := evFrom CL 2000 N7_3.m Dc N7_3.frs N7_3.T.sp
abbrev Ns7_4 : List NT := [N8_1]
noncomputable def M7_4 : TT Out := evFrom CL 2000 N7_4.m Dc N7_4.frs N7_4.T.sp
abbrev Ns7_5 : List NT := [N8_2]
noncomputable def M7_5 : TT Out := evFrom CL 2000 N7_5.m Dc N7_5.frs N7_5.T.sp
abbrev Ns7_6 : List NT := [N8_3]
noncomputable def M7_6 : TT Out := evFrom CL 2000 N7_6.m Dc N7_6.frs N7_6.T.sp
abbrev Ns7_7 : List NT := [N8_4]
noncomputable def M7_7 : TT Out := evFrom CL 2000 N7_7.m Dc N7_7.frs N7_7.T.sp
abbrev Ns7_8 : List NT := [N8_5]
noncomputable def M7_8 : TT Out := evFrom CL 2000 N7_8.m Dc N7_8.frs N7_8.T.sp
abbrev Ns7_9 : List NT := [N8_6]
noncomputable def M7_9 : TT Out := evFrom CL 2000 N7_9.m Dc N7_9.frs N7_9.T.sp
abbrev Ns7_10 : List NT := [N8_7]
noncomputable def M7_10 : TT Out := evFrom CL 2000 N7_10.m Dc N7_10.frs N7_10.T.sp
abbrev Ns7_11 : List NT := [N8_8]
noncomputable def M7_11 : TT Out := evFrom CL 2000 N7_11.m Dc N7_11.frs N7_11.T.sp
abbrev Ns7_12 : List NT := [N8_9]
noncomputable def M7_12 : TT Out := evFrom CL 2000 N7_12.m Dc N7_12.frs N7_12.T.sp
abbrev Ns7_13 : List NT := [N8_10]
noncomputable def M7_13 : TT Out := evFrom CL 2000 N7_13.m Dc N7_13.frs N7_13.T.sp
abbrev Ns7_14 : List NT := [N8_11]
noncomputable def M7_14 : TT Out := evFrom CL 2000 N7_14.m Dc N7_14.frs N7_14.T.sp
abbrev Ns7_15 : List NT := [N8_12]
noncomputable def M7_15 : TT Out := evFrom CL 2000 N7_15.m Dc N7_15.frs N7_15.T.sp
abbrev Ns7_16 : List NT := [N8_13]
noncomputable def M7_16 : TT Out := evFrom CL 2000 N7_16.m Dc N7_16.frs N7_16.T.sp
abbrev Ns7_17 : List NT := [N8_14]
noncomputable def M7_17 : TT Out := evFrom CL 2000 N7_17.m Dc N7_17.frs N7_17.T.sp
abbrev Ns7_18 : List NT := [N8_15]
noncomputable def M7_18 : TT Out := evFrom CL 2000 N7_18.m Dc N7_18.frs N7_18.T.sp
abbrev Ns8_0 : List NT := []
noncomputable def M8_0 : TT Out := evFrom CL 2000 N8_0.m Dc N8_0.frs N8_0.T.sp
abbrev Ns8_1 : List NT := []
noncomputable def M8_1 : TT Out := evFrom CL 2000 N8_1.m Dc N8_1.frs N8_1.T.sp
abbrev Ns8_2 : List NT := []
noncomputable def M8_2 : TT Out := evFrom CL 2000 N8_2.m Dc N8_2.frs N8_2.T.sp
abbrev Ns8_3 : List NT := [N9_0]
noncomputable def M8_3 : TT Out := evFrom CL 2000 N8_3.m Dc N8_3.frs N8_3.T.sp
abbrev Ns8_4 : List NT := [N9_1]
noncomputable def M8_4 : TT Out := evFrom CL 2000 N8_4.m Dc N8_4.frs N8_4.T.sp
abbrev Ns8_5 : List NT := [N9_2]
noncomputable def M8_5 : TT Out := evFrom CL 2000 N8_5.m Dc N8_5.frs N8_5.T.sp
abbrev Ns8_6 : List NT := [N9_3]
noncomputable def M8_6 : TT Out := evFrom CL 2000 N8_6.m Dc N8_6.frs N8_6.T.sp
abbrev Ns8_7 : List NT := [N9_4]
noncomputable def M8_7 : TT Out := evFrom CL 2000 N8_7.m Dc N8_7.frs N8_7.T.sp
abbrev Ns8_8 : List NT := [N9_5]
noncomputable def M8_8 : TT Out := evFrom CL 2000 N8_8.m Dc N8_8.frs N8_8.T.sp
abbrev Ns8_9 : List NT := [N9_6]
noncomputable def M8_9 : TT Out := evFrom CL 2000 N8_9.m Dc N8_9.frs N8_9.T.sp
abbrev Ns8_10 : List NT := [N9_7]
noncomputable def M8_10 : TT Out := evFrom CL 2000 N8_10.m Dc N8_10.frs N8_10.T.sp
abbrev Ns8_11 : List NT := [N9_8]
noncomputable def M8_11 : TT Out := evFrom CL 2000 N8_11.m Dc N8_11.frs N8_11.T.sp
abbrev Ns8_12 : List NT := [N9_9]
noncomputable def M8_12 : TT Out := evFrom CL 2000 N8_12.m Dc N8_12.frs N8_12.T.sp
abbrev Ns8_13 : List NT := [N9_10]
noncomputable def M8_13 : TT Out := evFrom CL 2000 N8_13.m Dc N8_13.frs N8_13.T.sp
abbrev Ns8_14 : List NT := [N9_11]
noncomputable def M8_14 : TT Out := evFrom CL 2000 N8_14.m Dc N8_14.frs N8_14.T.sp
abbrev Ns8_15 : List NT := [N9_12]
noncomputable def M8_15 : TT Out := evFrom CL 2000 N8_15.m Dc N8_15.frs N8_15.T.sp
abbrev Ns9_0 : List NT := []
noncomputable def M9_0 : TT Out := evFrom CL 2000 N9_0.m Dc N9_0.frs N9_0.T.sp
abbrev Ns9_1 : List NT := []
noncomputable def M9_1 : TT Out := evFrom CL 2000 N9_1.m Dc N9_1.frs N9_1.T.sp
abbrev Ns9_2 : List NT := []
noncomputable def M9_2 : TT Out := evFrom CL 2000 N9_2.m Dc N9_2.frs N9_2.T.sp
abbrev Ns9_3 : List NT := [N10_0]
noncomputable def M9_3 : TT Out := evFrom CL 2000 N9_3.m Dc N9_3.frs N9_3.T.sp
abbrev Ns9_4 : List NT := [N10_1]
noncomputable def M9_4 : TT Out := evFrom CL 2000 N9_4.m Dc N9_4.frs N9_4.T.sp
abbrev Ns9_5 : List NT := [N10_2]
noncomputable def M9_5 : TT Out := evFrom CL 2000 N9_5.m Dc N9_5.frs N9_5.T.sp
abbrev Ns9_6 : List NT := [N10_3]
noncomputable def M9_6 : TT Out := evFrom CL 2000 N9_6.m Dc N9_6.frs N9_6.T.sp
abbrev Ns9_7 : List NT := [N10_4]
noncomputable def M9_7 : TT Out := evFrom CL 2000 N9_7.m Dc N9_7.frs N9_7.T.sp
abbrev Ns9_8 : List NT := [N10_5]
noncomputable def M9_8 : TT Out := evFrom CL 2000 N9_8.m Dc N9_8.frs N9_8.T.sp
abbrev Ns9_9 : List NT := [N10_6]
noncomputable def M9_9 : TT Out := evFrom CL 2000 N9_9.m Dc N9_9.frs N9_9.T.sp
abbrev Ns9_10 : List NT := [N10_7]
noncomputable def M9_10 : TT Out := evFrom CL 2000 N9_10.m Dc N9_10.frs N9_10.T.sp
abbrev Ns9_11 : List NT := [N10_8]
noncomputable def M9_11 : TT Out := evFrom CL 2000 N9_11.m Dc N9_11.frs N9_11.T.sp
abbrev Ns9_12 : List NT := [N10_9]
noncomputable def M9_12 : TT Out := evFrom CL 2000 N9_12.m Dc N9_12.frs N9_12.T.sp
abbrev Ns10_0 : List NT := []
noncomputable def M10_0 : TT Out := evFrom CL 2000 N10_0.m Dc N10_0.frs N10_0.T.sp
abbrev Ns10_1 : List NT := []
noncomputable def M10_1 : TT Out := evFrom CL 2000 N10_1.m Dc N10_1.frs N10_1.T.sp
abbrev Ns10_2 : List NT := []
noncomputable def M10_2 : TT Out := evFrom CL 2000 N10_2.m Dc N10_2.frs N10_2.T.sp
abbrev Ns10_3 : List NT := [N11_0]
noncomputable def M10_3 : TT Out := evFrom CL 2000 N10_3.m Dc N10_3.frs N10_3.T.sp
abbrev Ns10_4 : List NT := [N11_1]
noncomputable def M10_4 : TT Out := evFrom CL 2000 N10_4.m Dc N10_4.frs N10_4.T.sp
abbrev Ns10_5 : List NT := [N11_2]
noncomputable def M10_5 : TT Out := evFrom CL 2000 N10_5.m Dc N10_5.frs N10_5.T.sp
abbrev Ns10_6 : List NT := [N11_3]
noncomputable def M10_6 : TT Out := evFrom CL 2000 N10_6.m Dc N10_6.frs N10_6.T.sp
abbrev Ns10_7 : List NT := [N11_4]
noncomputable def M10_7 : TT Out := evFrom CL 2000 N10_7.m Dc N10_7.frs N10_7.T.sp
abbrev Ns10_8 : List NT := [N11_5]
noncomputable def M10_8 : TT Out := evFrom CL 2000 N10_8.m Dc N10_8.frs N10_8.T.sp
abbrev Ns10_9 : List NT := [N11_6]
noncomputable def M10_9 : TT Out := evFrom CL 2000 N10_9.m Dc N10_9.frs N10_9.T.sp
abbrev Ns11_0 : List NT := []
noncomputable def M11_0 : TT Out := evFrom CL 2000 N11_0.m Dc N11_0.frs N11_0.T.sp
abbrev Ns11_1 : List NT := []
noncomputable def M11_1 : TT Out := evFrom CL 2000 N11_1.m Dc N11_1.frs N11_1.T.sp
abbrev Ns11_2 : List NT := []
noncomputable def M11_2 : TT Out := evFrom CL 2000 N11_2.m Dc N11_2.frs N11_2.T.sp
abbrev Ns11_3 : List NT := [N12_0]
noncomputable def M11_3 : TT Out := evFrom CL 2000 N11_3.m Dc N11_3.frs N11_3.T.sp
abbrev Ns11_4 : List NT := [N12_1]
noncomputable def M11_4 : TT Out := evFrom CL 2000 N11_4.m Dc N11_4.frs N11_4.T.sp
abbrev Ns11_5 : List NT := [N12_2]
noncomputable def M11_5 : TT Out := evFrom CL 2000 N11_5.m Dc N11_5.frs N11_5.T.sp
abbrev Ns11_6 : List NT := [N12_3]
noncomputable def M11_6 : TT Out := evFrom CL 2000 N11_6.m Dc N11_6.frs N11_6.T.sp
abbrev Ns12_0 : List NT := []
noncomputable def M12_0 : TT Out := evFrom CL 2000 N12_0.m Dc N12_0.frs N12_0.T.sp
abbrev Ns12_1 : List NT := []
noncomputable def M12_1 : TT Out := evFrom CL 2000 N12_1.m Dc N12_1.frs N12_1.T.sp
abbrev Ns12_2 : List NT := []
noncomputable def M12_2 : TT Out := evFrom CL 2000 N12_2.m Dc N12_2.frs N12_2.T.sp
abbrev Ns12_3 : List NT := [N13_0]
noncomputable def M12_3 : TT Out := evFrom CL 2000 N12_3.m Dc N12_3.frs N12_3.T.sp
abbrev Ns13_0 : List NT := []
noncomputable def M13_0 : TT Out := evFrom CL 2000 N13_0.m Dc N13_0.frs N13_0.T.sp
end Go.Proofs.YtlgfmmccnilkmaaGreatDoor.seqSums

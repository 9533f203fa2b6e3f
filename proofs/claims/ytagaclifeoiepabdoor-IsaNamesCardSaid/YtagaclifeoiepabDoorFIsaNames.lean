/- The functions that IsaNames comes to, as the symbolic machine runs them, each held against the program's. No condition. -/
import Derived.Test.YtagaclifeoiepabDoorRows
import Derived.Test.YtagaclifeoiepabDoorSyDoor
import Derived.Test.YtagaclifeoiepabDoorSyUse
namespace Go.Proofs.YtagaclifeoiepabDoor.isaNames
open Go.Sx
set_option linter.unusedVariables false
set_option linter.unusedSimpArgs false
set_option maxRecDepth 1000000
/- corral/corrallaw3.IsaNames -/
def af6 : AFunc := ⟨104, [.t 4],
 (.seq (.reg [⟨(some 4), (.p (.mv (.c (.bool (.lit false))))), none⟩])
 (.seq (.reg [⟨(some 15), (.call (.f 7) []), none⟩, ⟨(some 5), (.p (.mv (.t 15))), none⟩])
 (.seq (.seq (.reg [⟨(some 16), (.p (.mv (.t 5))), none⟩, ⟨(some 17), (.p (.un .not (.t 16))), none⟩])
 (.cond (.t 17) (.seq (.reg [⟨(some 4), (.p (.mv (.c (.bool (.lit false))))), none⟩])
 .ret)
 .skip))
 (.seq (.reg [⟨(some 19), (.p (.mv (.t 0))), none⟩, ⟨(some 20), (.call (.f 16) [(.t 19)]), none⟩, ⟨(some 18), (.p (.mv (.t 20))), none⟩, ⟨(some 21), (.p (.extract 0 (.t 18))), none⟩, ⟨(some 22), (.p (.extract 1 (.t 18))), none⟩, ⟨(some 6), (.newC [(.int .i64 (.lit 0)), (.str ⟨#[]⟩), (.int .u32 (.lit 0)), (.int .u32 (.lit 0)), (.int .u32 (.lit 0)), (.bool (.lit false)), (.bool (.lit false)), (.int .u8 (.lit 0)), (.bool (.lit false)), (.bool (.lit false)), (.bool (.lit false)), (.bool (.lit false)), (.int .u32 (.lit 0)), (.bool (.lit false))]), none⟩, ⟨none, (.store 14 (.t 6) (.t 21)), none⟩, ⟨(some 7), (.p (.mv (.t 22))), none⟩])
 (.seq (.reg [⟨(some 24), (.p (.mv (.t 0))), none⟩, ⟨(some 25), (.call (.f 14) [(.t 24)]), none⟩, ⟨(some 23), (.p (.mv (.t 25))), none⟩, ⟨(some 26), (.p (.extract 0 (.t 23))), none⟩, ⟨(some 27), (.p (.extract 1 (.t 23))), none⟩, ⟨(some 28), (.p (.extract 2 (.t 23))), none⟩, ⟨(some 29), (.p (.extract 3 (.t 23))), none⟩, ⟨(some 8), (.p (.mv (.t 26))), none⟩, ⟨(some 9), (.p (.mv (.t 27))), none⟩, ⟨(some 10), (.p (.mv (.t 28))), none⟩, ⟨(some 11), (.p (.mv (.t 29))), none⟩])
 (.seq (.seq (.draw [(⟨(some 30), (.p (.mv (.t 0))), none⟩, []), (⟨(some 31), (.call (.f 10) [(.t 30)]), none⟩, []), (⟨(some 32), (.p (.fieldAddr 1 (.t 6))), none⟩, []), (⟨(some 33), (.load false 1 (.t 32)), none⟩, [1]), (⟨(some 34), (.p (.bin 2 .neq (.t 31) (.t 33))), none⟩, []), (⟨(some 35), (.p (.mv (.t 34))), none⟩, []), (⟨(some 36), (.p (.mv (.t 0))), (some (35, false))⟩, []), (⟨(some 37), (.call (.f 11) [(.t 36)]), (some (35, false))⟩, []), (⟨(some 38), (.p (.mv (.t 0))), (some (35, false))⟩, []), (⟨(some 39), (.call (.f 15) [(.t 38)]), (some (35, false))⟩, []), (⟨(some 40), (.p (.bin 0 .neq (.t 37) (.t 39))), (some (35, false))⟩, []), (⟨(some 41), (.pick (.t 35) (.c (.bool (.lit true))) (.t 40)), none⟩, []), (⟨(some 42), (.p (.mv (.t 41))), none⟩, []), (⟨(some 43), (.p (.mv (.t 8))), (some (42, false))⟩, []), (⟨(some 44), (.p (.fieldAddr 8 (.t 6))), (some (42, false))⟩, []), (⟨(some 45), (.load false 1 (.t 44)), (some (42, false))⟩, []), (⟨(some 46), (.p (.bin 1 .neq (.t 43) (.t 45))), (some (42, false))⟩, []), (⟨(some 47), (.pick (.t 42) (.c (.bool (.lit true))) (.t 46)), none⟩, []), (⟨(some 48), (.p (.mv (.t 47))), none⟩, []), (⟨(some 49), (.p (.mv (.t 9))), (some (48, false))⟩, []), (⟨(some 50), (.p (.fieldAddr 9 (.t 6))), (some (48, false))⟩, []), (⟨(some 51), (.load false 1 (.t 50)), (some (48, false))⟩, []), (⟨(some 52), (.p (.bin 1 .neq (.t 49) (.t 51))), (some (48, false))⟩, []), (⟨(some 53), (.pick (.t 48) (.c (.bool (.lit true))) (.t 52)), none⟩, []), (⟨(some 54), (.p (.mv (.t 53))), none⟩, []), (⟨(some 55), (.p (.mv (.t 10))), (some (54, false))⟩, []), (⟨(some 56), (.p (.fieldAddr 10 (.t 6))), (some (54, false))⟩, []), (⟨(some 57), (.load false 1 (.t 56)), (some (54, false))⟩, []), (⟨(some 58), (.p (.bin 1 .neq (.t 55) (.t 57))), (some (54, false))⟩, []), (⟨(some 59), (.pick (.t 54) (.c (.bool (.lit true))) (.t 58)), none⟩, []), (⟨(some 60), (.p (.mv (.t 59))), none⟩, []), (⟨(some 61), (.p (.mv (.t 11))), (some (60, false))⟩, []), (⟨(some 62), (.p (.fieldAddr 7 (.t 6))), (some (60, false))⟩, []), (⟨(some 63), (.load false 1 (.t 62)), (some (60, false))⟩, []), (⟨(some 64), (.p (.bin 0 .neq (.t 63) (.c (.int .u8 (.lit 0))))), (some (60, false))⟩, []), (⟨(some 65), (.p (.bin 1 .neq (.t 61) (.t 64))), (some (60, false))⟩, []), (⟨(some 66), (.pick (.t 60) (.c (.bool (.lit true))) (.t 65)), none⟩, [])])
 (.cond (.t 66) (.seq (.reg [⟨(some 4), (.p (.mv (.c (.bool (.lit false))))), none⟩])
 .ret)
 .skip))
 (.seq (.reg [⟨(some 12), (.p (.mv (.c (.int .i64 (.lit 0))))), none⟩])
 (.seq (.reg [⟨(some 67), (.call (.f 17) []), none⟩, ⟨(some 13), (.p (.mv (.t 67))), none⟩])
 (.seq (.seq (.reg [⟨(some 14), (.p (.mv (.c (.int .i64 (.lit 0))))), none⟩])
 (.block 0 (.loop (.seq (.seq (.reg [⟨(some 68), (.p (.mv (.t 14))), none⟩, ⟨(some 69), (.p (.mv (.t 13))), none⟩, ⟨(some 70), (.p (.lenS (.t 69))), none⟩, ⟨(some 71), (.p (.bin 0 .lss (.t 68) (.t 70))), none⟩])
 (.cond (.t 71) .skip
 (.exit 0)))
 (.seq (.block 1 (.seq (.reg [⟨(some 74), (.p (.mv (.t 13))), none⟩, ⟨(some 75), (.p (.mv (.t 14))), none⟩, ⟨(some 76), (.p (.idxSl 14 (.t 74) (.t 75))), none⟩, ⟨(some 77), (.p (.fieldAddr 1 (.t 76))), none⟩, ⟨(some 78), (.load false 1 (.t 77)), none⟩, ⟨(some 79), (.p (.mv (.t 1))), none⟩, ⟨(some 80), (.p (.bin 2 .eql (.t 78) (.t 79))), none⟩])
 (.cond (.t 80) (.reg [⟨(some 81), (.p (.mv (.t 13))), none⟩, ⟨(some 82), (.p (.mv (.t 14))), none⟩, ⟨(some 83), (.p (.idxSl 14 (.t 81) (.t 82))), none⟩, ⟨(some 84), (.p (.fieldAddr 0 (.t 83))), none⟩, ⟨(some 85), (.load false 1 (.t 84)), none⟩, ⟨(some 12), (.p (.mv (.t 85))), none⟩])
 .skip)))
 (.reg [⟨(some 72), (.p (.mv (.t 14))), none⟩, ⟨(some 73), (.p (.bin 0 .add (.t 72) (.c (.int .i64 (.lit 1))))), none⟩, ⟨(some 14), (.p (.mv (.t 73))), none⟩]))))))
 (.seq (.reg [⟨(some 86), (.p (.mv (.t 5))), none⟩, ⟨(some 87), (.p (.mv (.t 86))), none⟩, ⟨(some 88), (.p (.mv (.t 1))), (some (87, true))⟩, ⟨(some 89), (.call (.f 18) [(.t 88)]), (some (87, true))⟩, ⟨(some 90), (.p (.mv (.t 12))), (some (87, true))⟩, ⟨(some 91), (.p (.bin 0 .eql (.t 89) (.t 90))), (some (87, true))⟩, ⟨(some 92), (.pick (.t 87) (.t 91) (.c (.bool (.lit false)))), none⟩, ⟨(some 93), (.p (.mv (.t 92))), none⟩, ⟨(some 94), (.p (.mv (.t 7))), (some (93, true))⟩, ⟨(some 95), (.p (.un .not (.t 94))), (some (93, true))⟩, ⟨(some 96), (.p (.mv (.t 95))), (some (93, true))⟩, ⟨(some 97), (.p (.mv (.t 0))), (some (96, false))⟩, ⟨(some 98), (.call (.f 10) [(.t 97)]), (some (96, false))⟩, ⟨(some 99), (.call (.f 18) [(.t 98)]), (some (96, false))⟩, ⟨(some 100), (.p (.mv (.t 0))), (some (96, false))⟩, ⟨(some 101), (.p (.bin 0 .eql (.t 99) (.t 100))), (some (96, false))⟩, ⟨(some 102), (.pick (.t 96) (.c (.bool (.lit true))) (.t 101)), (some (93, true))⟩, ⟨(some 103), (.pick (.t 93) (.t 102) (.c (.bool (.lit false)))), none⟩, ⟨(some 4), (.p (.mv (.t 103))), none⟩])
 .ret))))))))))⟩
/- corral/corrallaw3.first -/
def af7 : AFunc := ⟨34, [.t 0],
 (.seq (.reg [⟨(some 0), (.p (.mv (.c (.bool (.lit false))))), none⟩])
 (.seq (.reg [⟨(some 8), (.call (.f 12) [(.c (.int .u32 (.lit 5243027)))]), none⟩, ⟨(some 7), (.p (.mv (.t 8))), none⟩, ⟨(some 9), (.p (.extract 0 (.t 7))), none⟩, ⟨(some 10), (.p (.extract 1 (.t 7))), none⟩, ⟨(some 1), (.newC [(.int .i64 (.lit 0)), (.int .i64 (.lit 0)), (.int .i64 (.lit 0)), (.int .i64 (.lit 0)), (.int .i64 (.lit 0)), (.int .u32 (.lit 0)), (.bool (.lit false)), (.bool (.lit false))]), none⟩, ⟨none, (.store 8 (.t 1) (.t 9)), none⟩, ⟨(some 2), (.p (.mv (.t 10))), none⟩])
 (.seq (.reg [⟨(some 12), (.call (.f 12) [(.c (.int .u32 (.lit 0)))]), none⟩, ⟨(some 11), (.p (.mv (.t 12))), none⟩, ⟨(some 13), (.p (.extract 0 (.t 11))), none⟩, ⟨(some 14), (.p (.extract 1 (.t 11))), none⟩, ⟨(some 3), (.newC [(.int .i64 (.lit 0)), (.int .i64 (.lit 0)), (.int .i64 (.lit 0)), (.int .i64 (.lit 0)), (.int .i64 (.lit 0)), (.int .u32 (.lit 0)), (.bool (.lit false)), (.bool (.lit false))]), none⟩, ⟨none, (.store 8 (.t 3) (.t 13)), none⟩, ⟨(some 4), (.p (.mv (.t 14))), none⟩])
 (.seq (.reg [⟨(some 16), (.p (.build [(.int .i64 (.lit 0)), (.int .i64 (.lit 0)), (.int .i64 (.lit 0)), (.int .i64 (.lit 0)), (.int .i64 (.lit 0)), (.int .u32 (.lit 0)), (.bool (.lit false)), (.bool (.lit false))] [(0, 1, (.c (.int .i64 (.lit 25)))), (5, 1, (.c (.int .u32 (.lit 32))))])), none⟩, ⟨(some 17), (.call (.f 8) [(.t 16)]), none⟩, ⟨(some 15), (.p (.mv (.t 17))), none⟩, ⟨(some 18), (.p (.extract 0 (.t 15))), none⟩, ⟨(some 19), (.p (.extract 1 (.t 15))), none⟩, ⟨(some 5), (.p (.mv (.t 18))), none⟩, ⟨(some 6), (.p (.mv (.t 19))), none⟩])
 (.seq (.reg [⟨(some 20), (.p (.mv (.t 2))), none⟩, ⟨(some 21), (.p (.mv (.t 20))), none⟩, ⟨(some 22), (.load true 8 (.t 1)), (some (21, true))⟩, ⟨(some 23), (.p (.build [(.int .i64 (.lit 0)), (.int .i64 (.lit 0)), (.int .i64 (.lit 0)), (.int .i64 (.lit 0)), (.int .i64 (.lit 0)), (.int .u32 (.lit 0)), (.bool (.lit false)), (.bool (.lit false))] [(0, 1, (.c (.int .i64 (.lit 19)))), (1, 1, (.c (.int .i64 (.lit 1)))), (5, 1, (.c (.int .u32 (.lit 5))))])), (some (21, true))⟩, ⟨(some 24), (.call (.f 13) [(.t 22), (.t 23)]), (some (21, true))⟩, ⟨(some 25), (.pick (.t 21) (.t 24) (.c (.bool (.lit false)))), none⟩, ⟨(some 26), (.p (.mv (.t 25))), none⟩, ⟨(some 27), (.p (.mv (.t 4))), (some (26, true))⟩, ⟨(some 28), (.p (.un .not (.t 27))), (some (26, true))⟩, ⟨(some 29), (.pick (.t 26) (.t 28) (.c (.bool (.lit false)))), none⟩, ⟨(some 30), (.p (.mv (.t 29))), none⟩, ⟨(some 31), (.p (.mv (.t 6))), (some (30, true))⟩, ⟨(some 32), (.call (.f 19) [(.t 31), (.c (.int .i64 (.lit 106)))]), (some (30, true))⟩, ⟨(some 33), (.pick (.t 30) (.t 32) (.c (.bool (.lit false)))), none⟩, ⟨(some 0), (.p (.mv (.t 33))), none⟩])
 .ret)))))⟩
/- corral/isa.Encode -/
def af8 : AFunc := ⟨185, [.t 2, .t 3],
 (.seq (.reg [⟨(some 1), (.box 8 (.t 0)), none⟩, ⟨(some 2), (.p (.mv (.c (.int .u32 (.lit 0))))), none⟩, ⟨(some 3), (.p (.mv (.c .nilIface))), none⟩])
 (.seq (.reg [⟨(some 17), (.p (.fieldAddr 0 (.t 1))), none⟩, ⟨(some 18), (.load false 1 (.t 17)), none⟩, ⟨(some 19), (.call (.f 20) [(.t 18)]), none⟩, ⟨(some 16), (.p (.mv (.t 19))), none⟩, ⟨(some 20), (.p (.extract 0 (.t 16))), none⟩, ⟨(some 21), (.p (.extract 1 (.t 16))), none⟩, ⟨(some 4), (.newC [(.int .i64 (.lit 0)), (.str ⟨#[]⟩), (.int .i64 (.lit 0)), (.int .u32 (.lit 0)), (.int .u32 (.lit 0)), (.int .u32 (.lit 0)), (.int .i64 (.lit 0))]), none⟩, ⟨none, (.store 7 (.t 4) (.t 20)), none⟩, ⟨(some 5), (.p (.mv (.t 21))), none⟩])
 (.seq (.seq (.reg [⟨(some 22), (.p (.mv (.t 5))), none⟩, ⟨(some 23), (.p (.un .not (.t 22))), none⟩])
 (.cond (.t 23) (.seq (.draw [(⟨(some 24), (.load false 1 (.g 0)), none⟩, []), (⟨(some 2), (.p (.mv (.c (.int .u32 (.lit 0))))), none⟩, []), (⟨(some 3), (.p (.mv (.t 24))), none⟩, [])])
 .ret)
 .skip))
 (.seq (.seq (.reg [⟨(some 25), (.p (.fieldAddr 1 (.t 1))), none⟩, ⟨(some 26), (.load false 1 (.t 25)), none⟩, ⟨(some 27), (.p (.fieldAddr 2 (.t 1))), none⟩, ⟨(some 28), (.load false 1 (.t 27)), none⟩, ⟨(some 29), (.p (.fieldAddr 3 (.t 1))), none⟩, ⟨(some 30), (.load false 1 (.t 29)), none⟩, ⟨(some 31), (.mkArr 1 3 [(.int .i64 (.lit 0))] [(0, 1, (.t 26)), (1, 1, (.t 28)), (2, 1, (.t 30))]), none⟩, ⟨(some 32), (.p (.lenS (.t 31))), none⟩, ⟨(some 33), (.p (.mv (.c (.int .i64 (.lit 0))))), none⟩])
 (.block 0 (.loop (.seq (.reg [⟨(some 34), (.p (.bin 0 .lss (.t 33) (.t 32))), none⟩])
 (.seq (.cond (.t 34) .skip
 (.exit 0))
 (.seq (.block 1 (.seq (.reg [⟨(some 35), (.p (.idxSl 1 (.t 31) (.t 33))), none⟩, ⟨(some 36), (.load false 1 (.t 35)), none⟩, ⟨(some 7), (.p (.mv (.t 36))), none⟩])
 (.seq (.reg [⟨(some 37), (.p (.mv (.t 7))), none⟩, ⟨(some 38), (.p (.bin 0 .lss (.t 37) (.c (.int .i64 (.lit 0))))), none⟩, ⟨(some 39), (.p (.mv (.t 38))), none⟩, ⟨(some 40), (.p (.mv (.t 7))), (some (39, false))⟩, ⟨(some 41), (.p (.bin 0 .gtr (.t 40) (.c (.int .i64 (.lit 31))))), (some (39, false))⟩, ⟨(some 42), (.pick (.t 39) (.c (.bool (.lit true))) (.t 41)), none⟩])
 (.cond (.t 42) (.seq (.draw [(⟨(some 43), (.load false 1 (.g 1)), none⟩, []), (⟨(some 2), (.p (.mv (.c (.int .u32 (.lit 0))))), none⟩, []), (⟨(some 3), (.p (.mv (.t 43))), none⟩, [])])
 .ret)
 .skip))))
 (.reg [⟨(some 44), (.p (.bin 0 .add (.t 33) (.c (.int .i64 (.lit 1))))), none⟩, ⟨(some 33), (.p (.mv (.t 44))), none⟩])))))))
 (.seq (.seq (.reg [⟨(some 45), (.p (.fieldAddr 4 (.t 1))), none⟩, ⟨(some 46), (.load false 1 (.t 45)), none⟩, ⟨(some 47), (.p (.bin 0 .lss (.t 46) (.c (.int .i64 (.lit 0))))), none⟩, ⟨(some 48), (.p (.mv (.t 47))), none⟩, ⟨(some 49), (.p (.fieldAddr 4 (.t 1))), (some (48, false))⟩, ⟨(some 50), (.load false 1 (.t 49)), (some (48, false))⟩, ⟨(some 51), (.p (.bin 0 .gtr (.t 50) (.c (.int .i64 (.lit 4095))))), (some (48, false))⟩, ⟨(some 52), (.pick (.t 48) (.c (.bool (.lit true))) (.t 51)), none⟩])
 (.cond (.t 52) (.seq (.draw [(⟨(some 53), (.load false 1 (.g 1)), none⟩, []), (⟨(some 2), (.p (.mv (.c (.int .u32 (.lit 0))))), none⟩, []), (⟨(some 3), (.p (.mv (.t 53))), none⟩, [])])
 .ret)
 .skip))
 (.seq (.reg [⟨(some 55), (.load true 7 (.t 4)), none⟩, ⟨(some 56), (.call (.f 21) [(.t 55)]), none⟩, ⟨(some 54), (.p (.mv (.t 56))), none⟩, ⟨(some 57), (.p (.extract 0 (.t 54))), none⟩, ⟨(some 58), (.p (.extract 1 (.t 54))), none⟩, ⟨(some 59), (.p (.extract 2 (.t 54))), none⟩, ⟨(some 60), (.p (.extract 3 (.t 54))), none⟩, ⟨(some 8), (.p (.mv (.t 57))), none⟩, ⟨(some 9), (.p (.mv (.t 58))), none⟩, ⟨(some 10), (.p (.mv (.t 59))), none⟩, ⟨(some 11), (.p (.mv (.t 60))), none⟩])
 (.seq (.reg [⟨(some 12), (.p (.mv (.c (.int .u32 (.lit 0))))), none⟩])
 (.seq (.seq (.reg [⟨(some 61), (.p (.mv (.t 11))), none⟩])
 (.cond (.t 61) (.seq (.reg [⟨(some 63), (.load true 7 (.t 4)), none⟩, ⟨(some 64), (.p (.fieldAddr 5 (.t 1))), none⟩, ⟨(some 65), (.load false 1 (.t 64)), none⟩, ⟨(some 66), (.call (.f 22) [(.t 63), (.t 65)]), none⟩, ⟨(some 62), (.p (.mv (.t 66))), none⟩, ⟨(some 67), (.p (.extract 0 (.t 62))), none⟩, ⟨(some 68), (.p (.extract 1 (.t 62))), none⟩, ⟨(some 12), (.p (.mv (.t 67))), none⟩, ⟨(some 5), (.p (.mv (.t 68))), none⟩])
 (.seq (.reg [⟨(some 69), (.p (.mv (.t 5))), none⟩, ⟨(some 70), (.p (.un .not (.t 69))), none⟩])
 (.cond (.t 70) (.seq (.draw [(⟨(some 71), (.load false 1 (.g 1)), none⟩, []), (⟨(some 2), (.p (.mv (.c (.int .u32 (.lit 0))))), none⟩, []), (⟨(some 3), (.p (.mv (.t 71))), none⟩, [])])
 .ret)
 .skip)))
 .skip))
 (.seq (.reg [⟨(some 72), (.p (.fieldAddr 2 (.t 4))), none⟩, ⟨(some 73), (.load false 1 (.t 72)), none⟩, ⟨(some 74), (.p (.bin 0 .eql (.t 73) (.c (.int .i64 (.lit 10))))), none⟩, ⟨(some 75), (.p (.mv (.t 74))), none⟩, ⟨(some 76), (.p (.fieldAddr 2 (.t 4))), (some (75, false))⟩, ⟨(some 77), (.load false 1 (.t 76)), (some (75, false))⟩, ⟨(some 78), (.p (.bin 0 .eql (.t 77) (.c (.int .i64 (.lit 11))))), (some (75, false))⟩, ⟨(some 79), (.pick (.t 75) (.c (.bool (.lit true))) (.t 78)), none⟩, ⟨(some 13), (.p (.mv (.t 79))), none⟩])
 (.seq (.reg [⟨(some 80), (.p (.fieldAddr 2 (.t 4))), none⟩, ⟨(some 81), (.load false 1 (.t 80)), none⟩, ⟨(some 82), (.p (.bin 0 .eql (.t 81) (.c (.int .i64 (.lit 12))))), none⟩, ⟨(some 83), (.p (.mv (.t 82))), none⟩, ⟨(some 84), (.p (.fieldAddr 2 (.t 4))), (some (83, false))⟩, ⟨(some 85), (.load false 1 (.t 84)), (some (83, false))⟩, ⟨(some 86), (.p (.bin 0 .eql (.t 85) (.c (.int .i64 (.lit 13))))), (some (83, false))⟩, ⟨(some 87), (.pick (.t 83) (.c (.bool (.lit true))) (.t 86)), none⟩, ⟨(some 14), (.p (.mv (.t 87))), none⟩])
 (.seq (.seq (.reg [⟨(some 88), (.p (.mv (.t 8))), none⟩, ⟨(some 89), (.p (.un .not (.t 88))), none⟩, ⟨(some 90), (.p (.mv (.t 89))), none⟩, ⟨(some 91), (.p (.fieldAddr 1 (.t 1))), (some (90, true))⟩, ⟨(some 92), (.load false 1 (.t 91)), (some (90, true))⟩, ⟨(some 93), (.p (.bin 0 .neq (.t 92) (.c (.int .i64 (.lit 0))))), (some (90, true))⟩, ⟨(some 94), (.pick (.t 90) (.t 93) (.c (.bool (.lit false)))), none⟩, ⟨(some 95), (.p (.mv (.t 94))), none⟩, ⟨(some 96), (.p (.mv (.t 9))), (some (95, false))⟩, ⟨(some 97), (.p (.un .not (.t 96))), (some (95, false))⟩, ⟨(some 98), (.p (.mv (.t 97))), (some (95, false))⟩, ⟨(some 99), (.p (.fieldAddr 2 (.t 1))), (some (98, true))⟩, ⟨(some 100), (.load false 1 (.t 99)), (some (98, true))⟩, ⟨(some 101), (.p (.bin 0 .neq (.t 100) (.c (.int .i64 (.lit 0))))), (some (98, true))⟩, ⟨(some 102), (.pick (.t 98) (.t 101) (.c (.bool (.lit false)))), (some (95, false))⟩, ⟨(some 103), (.pick (.t 95) (.c (.bool (.lit true))) (.t 102)), none⟩, ⟨(some 104), (.p (.mv (.t 103))), none⟩, ⟨(some 105), (.p (.mv (.t 10))), (some (104, false))⟩, ⟨(some 106), (.p (.un .not (.t 105))), (some (104, false))⟩, ⟨(some 107), (.p (.mv (.t 106))), (some (104, false))⟩, ⟨(some 108), (.p (.fieldAddr 3 (.t 1))), (some (107, true))⟩, ⟨(some 109), (.load false 1 (.t 108)), (some (107, true))⟩, ⟨(some 110), (.p (.bin 0 .neq (.t 109) (.c (.int .i64 (.lit 0))))), (some (107, true))⟩, ⟨(some 111), (.pick (.t 107) (.t 110) (.c (.bool (.lit false)))), (some (104, false))⟩, ⟨(some 112), (.pick (.t 104) (.c (.bool (.lit true))) (.t 111)), none⟩, ⟨(some 113), (.p (.mv (.t 112))), none⟩, ⟨(some 114), (.p (.mv (.t 11))), (some (113, false))⟩, ⟨(some 115), (.p (.un .not (.t 114))), (some (113, false))⟩, ⟨(some 116), (.p (.mv (.t 115))), (some (113, false))⟩, ⟨(some 117), (.p (.fieldAddr 5 (.t 1))), (some (116, true))⟩, ⟨(some 118), (.load false 1 (.t 117)), (some (116, true))⟩, ⟨(some 119), (.p (.bin 0 .neq (.t 118) (.c (.int .u32 (.lit 0))))), (some (116, true))⟩, ⟨(some 120), (.pick (.t 116) (.t 119) (.c (.bool (.lit false)))), (some (113, false))⟩, ⟨(some 121), (.pick (.t 113) (.c (.bool (.lit true))) (.t 120)), none⟩, ⟨(some 122), (.p (.mv (.t 121))), none⟩, ⟨(some 123), (.p (.mv (.t 13))), (some (122, false))⟩, ⟨(some 124), (.p (.un .not (.t 123))), (some (122, false))⟩, ⟨(some 125), (.p (.mv (.t 124))), (some (122, false))⟩, ⟨(some 126), (.p (.fieldAddr 4 (.t 1))), (some (125, true))⟩, ⟨(some 127), (.load false 1 (.t 126)), (some (125, true))⟩, ⟨(some 128), (.p (.bin 0 .neq (.t 127) (.c (.int .i64 (.lit 0))))), (some (125, true))⟩, ⟨(some 129), (.pick (.t 125) (.t 128) (.c (.bool (.lit false)))), (some (122, false))⟩, ⟨(some 130), (.pick (.t 122) (.c (.bool (.lit true))) (.t 129)), none⟩, ⟨(some 131), (.p (.mv (.t 130))), none⟩, ⟨(some 132), (.p (.mv (.t 14))), (some (131, false))⟩, ⟨(some 133), (.p (.un .not (.t 132))), (some (131, false))⟩, ⟨(some 134), (.p (.mv (.t 133))), (some (131, false))⟩, ⟨(some 135), (.p (.fieldAddr 6 (.t 1))), (some (134, true))⟩, ⟨(some 136), (.load false 1 (.t 135)), (some (134, true))⟩, ⟨(some 137), (.p (.mv (.t 136))), (some (134, true))⟩, ⟨(some 138), (.p (.fieldAddr 7 (.t 1))), (some (137, false))⟩, ⟨(some 139), (.load false 1 (.t 138)), (some (137, false))⟩, ⟨(some 140), (.pick (.t 137) (.c (.bool (.lit true))) (.t 139)), (some (134, true))⟩, ⟨(some 141), (.pick (.t 134) (.t 140) (.c (.bool (.lit false)))), (some (131, false))⟩, ⟨(some 142), (.pick (.t 131) (.c (.bool (.lit true))) (.t 141)), none⟩])
 (.cond (.t 142) (.seq (.draw [(⟨(some 143), (.load false 1 (.g 2)), none⟩, []), (⟨(some 2), (.p (.mv (.c (.int .u32 (.lit 0))))), none⟩, []), (⟨(some 3), (.p (.mv (.t 143))), none⟩, [])])
 .ret)
 .skip))
 (.seq (.seq (.reg [⟨(some 144), (.p (.fieldAddr 2 (.t 4))), none⟩, ⟨(some 145), (.load false 1 (.t 144)), none⟩, ⟨(some 146), (.p (.bin 0 .eql (.t 145) (.c (.int .i64 (.lit 8))))), none⟩])
 (.cond (.t 146) (.seq (.reg [⟨(some 147), (.p (.fieldAddr 3 (.t 4))), none⟩, ⟨(some 148), (.load false 1 (.t 147)), none⟩, ⟨(some 2), (.p (.mv (.t 148))), none⟩, ⟨(some 3), (.p (.mv (.c .nilIface))), none⟩])
 .ret)
 .skip))
 (.seq (.reg [⟨(some 149), (.p (.fieldAddr 5 (.t 4))), none⟩, ⟨(some 150), (.load false 1 (.t 149)), none⟩, ⟨(some 15), (.p (.mv (.t 150))), none⟩])
 (.seq (.seq (.reg [⟨(some 151), (.p (.mv (.t 14))), none⟩])
 (.cond (.t 151) (.seq (.reg [⟨(some 152), (.p (.mv (.t 15))), none⟩, ⟨(some 153), (.p (.bin 0 .shl (.t 152) (.c (.int .u64 (.lit 2))))), none⟩, ⟨(some 15), (.p (.mv (.t 153))), none⟩])
 (.seq (.seq (.reg [⟨(some 154), (.p (.fieldAddr 6 (.t 1))), none⟩, ⟨(some 155), (.load false 1 (.t 154)), none⟩])
 (.cond (.t 155) (.reg [⟨(some 156), (.p (.mv (.t 15))), none⟩, ⟨(some 157), (.p (.bin 0 .or (.t 156) (.c (.int .u32 (.lit 2))))), none⟩, ⟨(some 15), (.p (.mv (.t 157))), none⟩])
 .skip))
 (.seq (.reg [⟨(some 158), (.p (.fieldAddr 7 (.t 1))), none⟩, ⟨(some 159), (.load false 1 (.t 158)), none⟩])
 (.cond (.t 159) (.reg [⟨(some 160), (.p (.mv (.t 15))), none⟩, ⟨(some 161), (.p (.bin 0 .or (.t 160) (.c (.int .u32 (.lit 1))))), none⟩, ⟨(some 15), (.p (.mv (.t 161))), none⟩])
 .skip))))
 .skip))
 (.seq (.draw [(⟨(some 162), (.p (.mv (.t 12))), none⟩, []), (⟨(some 163), (.p (.fieldAddr 4 (.t 1))), none⟩, []), (⟨(some 164), (.load false 1 (.t 163)), none⟩, [21]), (⟨(some 165), (.p (.conv .u32 (.t 164))), none⟩, []), (⟨(some 166), (.p (.bin 0 .shl (.t 165) (.c (.int .u64 (.lit 20))))), none⟩, []), (⟨(some 167), (.p (.bin 0 .or (.t 162) (.t 166))), none⟩, []), (⟨(some 168), (.p (.fieldAddr 3 (.t 4))), none⟩, []), (⟨(some 169), (.load false 1 (.t 168)), none⟩, []), (⟨(some 170), (.p (.fieldAddr 1 (.t 1))), none⟩, []), (⟨(some 171), (.load false 1 (.t 170)), none⟩, []), (⟨(some 172), (.p (.conv .u32 (.t 171))), none⟩, []), (⟨(some 173), (.p (.fieldAddr 4 (.t 4))), none⟩, []), (⟨(some 174), (.load false 1 (.t 173)), none⟩, []), (⟨(some 175), (.p (.fieldAddr 2 (.t 1))), none⟩, []), (⟨(some 176), (.load false 1 (.t 175)), none⟩, []), (⟨(some 177), (.p (.conv .u32 (.t 176))), none⟩, []), (⟨(some 178), (.p (.fieldAddr 3 (.t 1))), none⟩, []), (⟨(some 179), (.load false 1 (.t 178)), none⟩, []), (⟨(some 180), (.p (.conv .u32 (.t 179))), none⟩, []), (⟨(some 181), (.p (.mv (.t 15))), none⟩, []), (⟨(some 182), (.p (.build [(.int .u32 (.lit 0)), (.int .u32 (.lit 0)), (.int .u32 (.lit 0)), (.int .u32 (.lit 0)), (.int .u32 (.lit 0)), (.int .u32 (.lit 0))] [(0, 1, (.t 169)), (1, 1, (.t 172)), (2, 1, (.t 174)), (3, 1, (.t 177)), (4, 1, (.t 180)), (5, 1, (.t 181))])), none⟩, []), (⟨(some 183), (.call (.f 23) [(.t 182)]), none⟩, []), (⟨(some 184), (.p (.bin 0 .or (.t 167) (.t 183))), none⟩, []), (⟨(some 2), (.p (.mv (.t 184))), none⟩, []), (⟨(some 3), (.p (.mv (.c .nilIface))), none⟩, [])])
 .ret)))))))))))))))⟩
/- corral/isa.Name -/
def af10 : AFunc := ⟨12, [.t 2],
 (.seq (.reg [⟨(some 2), (.p (.mv (.c (.str ⟨#[]⟩)))), none⟩])
 (.seq (.reg [⟨(some 6), (.p (.mv (.t 0))), none⟩, ⟨(some 7), (.call (.f 20) [(.t 6)]), none⟩, ⟨(some 5), (.p (.mv (.t 7))), none⟩, ⟨(some 8), (.p (.extract 0 (.t 5))), none⟩, ⟨(some 9), (.p (.extract 1 (.t 5))), none⟩, ⟨(some 3), (.newC [(.int .i64 (.lit 0)), (.str ⟨#[]⟩), (.int .i64 (.lit 0)), (.int .u32 (.lit 0)), (.int .u32 (.lit 0)), (.int .u32 (.lit 0)), (.int .i64 (.lit 0))]), none⟩, ⟨none, (.store 7 (.t 3) (.t 8)), none⟩, ⟨(some 4), (.p (.mv (.t 9))), none⟩])
 (.seq (.reg [⟨(some 10), (.p (.fieldAddr 1 (.t 3))), none⟩, ⟨(some 11), (.load false 1 (.t 10)), none⟩, ⟨(some 2), (.p (.mv (.t 11))), none⟩])
 .ret)))⟩
/- corral/isa.Kind -/
def af11 : AFunc := ⟨12, [.t 2],
 (.seq (.reg [⟨(some 2), (.p (.mv (.c (.int .i64 (.lit 0))))), none⟩])
 (.seq (.reg [⟨(some 6), (.p (.mv (.t 0))), none⟩, ⟨(some 7), (.call (.f 20) [(.t 6)]), none⟩, ⟨(some 5), (.p (.mv (.t 7))), none⟩, ⟨(some 8), (.p (.extract 0 (.t 5))), none⟩, ⟨(some 9), (.p (.extract 1 (.t 5))), none⟩, ⟨(some 3), (.newC [(.int .i64 (.lit 0)), (.str ⟨#[]⟩), (.int .i64 (.lit 0)), (.int .u32 (.lit 0)), (.int .u32 (.lit 0)), (.int .u32 (.lit 0)), (.int .i64 (.lit 0))]), none⟩, ⟨none, (.store 7 (.t 3) (.t 8)), none⟩, ⟨(some 4), (.p (.mv (.t 9))), none⟩])
 (.seq (.reg [⟨(some 10), (.p (.fieldAddr 6 (.t 3))), none⟩, ⟨(some 11), (.load false 1 (.t 10)), none⟩, ⟨(some 2), (.p (.mv (.t 11))), none⟩])
 .ret)))⟩
/- corral/isa.Decode -/
def af12 : AFunc := ⟨20, [.cell 2 true 8, .t 3],
 (.seq (.reg [⟨(some 2), (.newC [(.int .i64 (.lit 0)), (.int .i64 (.lit 0)), (.int .i64 (.lit 0)), (.int .i64 (.lit 0)), (.int .i64 (.lit 0)), (.int .u32 (.lit 0)), (.bool (.lit false)), (.bool (.lit false))]), none⟩, ⟨(some 3), (.p (.mv (.c (.bool (.lit false))))), none⟩])
 (.seq (.seq (.reg [⟨(some 6), (.call (.f 24) []), none⟩, ⟨(some 7), (.p (.lenS (.t 6))), none⟩, ⟨(some 8), (.p (.mv (.c (.int .i64 (.lit 0))))), none⟩])
 (.block 0 (.loop (.seq (.reg [⟨(some 9), (.p (.bin 0 .lss (.t 8) (.t 7))), none⟩])
 (.seq (.cond (.t 9) .skip
 (.exit 0))
 (.seq (.block 1 (.seq (.reg [⟨(some 10), (.p (.idxSl 7 (.t 6) (.t 8))), none⟩, ⟨(some 11), (.load true 7 (.t 10)), none⟩, ⟨(some 5), (.newC [(.int .i64 (.lit 0)), (.str ⟨#[]⟩), (.int .i64 (.lit 0)), (.int .u32 (.lit 0)), (.int .u32 (.lit 0)), (.int .u32 (.lit 0)), (.int .i64 (.lit 0))]), none⟩, ⟨none, (.store 7 (.t 5) (.t 11)), none⟩])
 (.seq (.reg [⟨(some 12), (.load true 7 (.t 5)), none⟩, ⟨(some 13), (.p (.mv (.t 0))), none⟩, ⟨(some 14), (.call (.f 25) [(.t 12), (.t 13)]), none⟩])
 (.cond (.t 14) (.seq (.reg [⟨(some 15), (.load true 7 (.t 5)), none⟩, ⟨(some 16), (.p (.mv (.t 0))), none⟩, ⟨(some 17), (.call (.f 26) [(.t 15), (.t 16)]), none⟩, ⟨none, (.store 8 (.t 2) (.t 17)), none⟩, ⟨(some 3), (.p (.mv (.c (.bool (.lit true))))), none⟩])
 .ret)
 .skip))))
 (.reg [⟨(some 18), (.p (.bin 0 .add (.t 8) (.c (.int .i64 (.lit 1))))), none⟩, ⟨(some 8), (.p (.mv (.t 18))), none⟩])))))))
 (.seq (.reg [⟨(some 19), (.p (.build [(.int .i64 (.lit 0)), (.int .i64 (.lit 0)), (.int .i64 (.lit 0)), (.int .i64 (.lit 0)), (.int .i64 (.lit 0)), (.int .u32 (.lit 0)), (.bool (.lit false)), (.bool (.lit false))] [])), none⟩, ⟨none, (.store 8 (.t 2) (.t 19)), none⟩, ⟨(some 3), (.p (.mv (.c (.bool (.lit false))))), none⟩])
 .ret)))⟩
/- corral/corralref.SameInst -/
def af13 : AFunc := ⟨59, [.t 4],
 (.seq (.reg [⟨(some 2), (.box 8 (.t 0)), none⟩, ⟨(some 3), (.box 8 (.t 1)), none⟩, ⟨(some 4), (.p (.mv (.c (.bool (.lit false))))), none⟩])
 (.seq (.reg [⟨(some 5), (.p (.fieldAddr 0 (.t 2))), none⟩, ⟨(some 6), (.load false 1 (.t 5)), none⟩, ⟨(some 7), (.p (.fieldAddr 0 (.t 3))), none⟩, ⟨(some 8), (.load false 1 (.t 7)), none⟩, ⟨(some 9), (.p (.bin 0 .eql (.t 6) (.t 8))), none⟩, ⟨(some 10), (.p (.mv (.t 9))), none⟩, ⟨(some 11), (.p (.fieldAddr 1 (.t 2))), (some (10, true))⟩, ⟨(some 12), (.load false 1 (.t 11)), (some (10, true))⟩, ⟨(some 13), (.p (.fieldAddr 1 (.t 3))), (some (10, true))⟩, ⟨(some 14), (.load false 1 (.t 13)), (some (10, true))⟩, ⟨(some 15), (.p (.bin 0 .eql (.t 12) (.t 14))), (some (10, true))⟩, ⟨(some 16), (.pick (.t 10) (.t 15) (.c (.bool (.lit false)))), none⟩, ⟨(some 17), (.p (.mv (.t 16))), none⟩, ⟨(some 18), (.p (.fieldAddr 2 (.t 2))), (some (17, true))⟩, ⟨(some 19), (.load false 1 (.t 18)), (some (17, true))⟩, ⟨(some 20), (.p (.fieldAddr 2 (.t 3))), (some (17, true))⟩, ⟨(some 21), (.load false 1 (.t 20)), (some (17, true))⟩, ⟨(some 22), (.p (.bin 0 .eql (.t 19) (.t 21))), (some (17, true))⟩, ⟨(some 23), (.pick (.t 17) (.t 22) (.c (.bool (.lit false)))), none⟩, ⟨(some 24), (.p (.mv (.t 23))), none⟩, ⟨(some 25), (.p (.fieldAddr 3 (.t 2))), (some (24, true))⟩, ⟨(some 26), (.load false 1 (.t 25)), (some (24, true))⟩, ⟨(some 27), (.p (.fieldAddr 3 (.t 3))), (some (24, true))⟩, ⟨(some 28), (.load false 1 (.t 27)), (some (24, true))⟩, ⟨(some 29), (.p (.bin 0 .eql (.t 26) (.t 28))), (some (24, true))⟩, ⟨(some 30), (.pick (.t 24) (.t 29) (.c (.bool (.lit false)))), none⟩, ⟨(some 31), (.p (.mv (.t 30))), none⟩, ⟨(some 32), (.p (.fieldAddr 4 (.t 2))), (some (31, true))⟩, ⟨(some 33), (.load false 1 (.t 32)), (some (31, true))⟩, ⟨(some 34), (.p (.fieldAddr 4 (.t 3))), (some (31, true))⟩, ⟨(some 35), (.load false 1 (.t 34)), (some (31, true))⟩, ⟨(some 36), (.p (.bin 0 .eql (.t 33) (.t 35))), (some (31, true))⟩, ⟨(some 37), (.pick (.t 31) (.t 36) (.c (.bool (.lit false)))), none⟩, ⟨(some 38), (.p (.mv (.t 37))), none⟩, ⟨(some 39), (.p (.fieldAddr 5 (.t 2))), (some (38, true))⟩, ⟨(some 40), (.load false 1 (.t 39)), (some (38, true))⟩, ⟨(some 41), (.p (.fieldAddr 5 (.t 3))), (some (38, true))⟩, ⟨(some 42), (.load false 1 (.t 41)), (some (38, true))⟩, ⟨(some 43), (.p (.bin 0 .eql (.t 40) (.t 42))), (some (38, true))⟩, ⟨(some 44), (.pick (.t 38) (.t 43) (.c (.bool (.lit false)))), none⟩, ⟨(some 45), (.p (.mv (.t 44))), none⟩, ⟨(some 46), (.p (.fieldAddr 6 (.t 2))), (some (45, true))⟩, ⟨(some 47), (.load false 1 (.t 46)), (some (45, true))⟩, ⟨(some 48), (.p (.fieldAddr 6 (.t 3))), (some (45, true))⟩, ⟨(some 49), (.load false 1 (.t 48)), (some (45, true))⟩, ⟨(some 50), (.p (.bin 1 .eql (.t 47) (.t 49))), (some (45, true))⟩, ⟨(some 51), (.pick (.t 45) (.t 50) (.c (.bool (.lit false)))), none⟩, ⟨(some 52), (.p (.mv (.t 51))), none⟩, ⟨(some 53), (.p (.fieldAddr 7 (.t 2))), (some (52, true))⟩, ⟨(some 54), (.load false 1 (.t 53)), (some (52, true))⟩, ⟨(some 55), (.p (.fieldAddr 7 (.t 3))), (some (52, true))⟩, ⟨(some 56), (.load false 1 (.t 55)), (some (52, true))⟩, ⟨(some 57), (.p (.bin 1 .eql (.t 54) (.t 56))), (some (52, true))⟩, ⟨(some 58), (.pick (.t 52) (.t 57) (.c (.bool (.lit false)))), none⟩, ⟨(some 4), (.p (.mv (.t 58))), none⟩])
 .ret))⟩
/- corral/isa.Uses -/
def af14 : AFunc := ⟨21, [.t 2, .t 3, .t 4, .t 5],
 (.seq (.reg [⟨(some 2), (.p (.mv (.c (.bool (.lit false))))), none⟩, ⟨(some 3), (.p (.mv (.c (.bool (.lit false))))), none⟩, ⟨(some 4), (.p (.mv (.c (.bool (.lit false))))), none⟩, ⟨(some 5), (.p (.mv (.c (.bool (.lit false))))), none⟩])
 (.seq (.reg [⟨(some 9), (.p (.mv (.t 0))), none⟩, ⟨(some 10), (.call (.f 20) [(.t 9)]), none⟩, ⟨(some 8), (.p (.mv (.t 10))), none⟩, ⟨(some 11), (.p (.extract 0 (.t 8))), none⟩, ⟨(some 12), (.p (.extract 1 (.t 8))), none⟩, ⟨(some 6), (.newC [(.int .i64 (.lit 0)), (.str ⟨#[]⟩), (.int .i64 (.lit 0)), (.int .u32 (.lit 0)), (.int .u32 (.lit 0)), (.int .u32 (.lit 0)), (.int .i64 (.lit 0))]), none⟩, ⟨none, (.store 7 (.t 6) (.t 11)), none⟩, ⟨(some 7), (.p (.mv (.t 12))), none⟩])
 (.seq (.seq (.reg [⟨(some 13), (.p (.mv (.t 7))), none⟩, ⟨(some 14), (.p (.un .not (.t 13))), none⟩])
 (.cond (.t 14) (.seq (.reg [⟨(some 2), (.p (.mv (.c (.bool (.lit false))))), none⟩, ⟨(some 3), (.p (.mv (.c (.bool (.lit false))))), none⟩, ⟨(some 4), (.p (.mv (.c (.bool (.lit false))))), none⟩, ⟨(some 5), (.p (.mv (.c (.bool (.lit false))))), none⟩])
 .ret)
 .skip))
 (.seq (.reg [⟨(some 15), (.load true 7 (.t 6)), none⟩, ⟨(some 16), (.call (.f 21) [(.t 15)]), none⟩, ⟨(some 17), (.p (.extract 0 (.t 16))), none⟩, ⟨(some 18), (.p (.extract 1 (.t 16))), none⟩, ⟨(some 19), (.p (.extract 2 (.t 16))), none⟩, ⟨(some 20), (.p (.extract 3 (.t 16))), none⟩, ⟨(some 2), (.p (.mv (.t 17))), none⟩, ⟨(some 3), (.p (.mv (.t 18))), none⟩, ⟨(some 4), (.p (.mv (.t 19))), none⟩, ⟨(some 5), (.p (.mv (.t 20))), none⟩])
 .ret))))⟩
/- corral/corralref1.Kind -/
def af15 : AFunc := ⟨72, [.t 2],
 (.seq (.reg [⟨(some 2), (.p (.mv (.c (.int .i64 (.lit 0))))), none⟩])
 (.seq (.block 0 (.seq (.reg [⟨(some 4), (.p (.mv (.t 0))), none⟩, ⟨(some 5), (.p (.bin 0 .eql (.t 4) (.c (.int .i64 (.lit 1))))), none⟩, ⟨(some 6), (.p (.mv (.t 5))), none⟩, ⟨(some 7), (.p (.mv (.t 0))), (some (6, false))⟩, ⟨(some 8), (.p (.bin 0 .eql (.t 7) (.c (.int .i64 (.lit 2))))), (some (6, false))⟩, ⟨(some 9), (.pick (.t 6) (.c (.bool (.lit true))) (.t 8)), none⟩, ⟨(some 10), (.p (.mv (.t 9))), none⟩, ⟨(some 11), (.p (.mv (.t 0))), (some (10, false))⟩, ⟨(some 12), (.p (.bin 0 .geq (.t 11) (.c (.int .i64 (.lit 19))))), (some (10, false))⟩, ⟨(some 13), (.p (.mv (.t 12))), (some (10, false))⟩, ⟨(some 14), (.p (.mv (.t 0))), (some (13, true))⟩, ⟨(some 15), (.p (.bin 0 .leq (.t 14) (.c (.int .i64 (.lit 37))))), (some (13, true))⟩, ⟨(some 16), (.pick (.t 13) (.t 15) (.c (.bool (.lit false)))), (some (10, false))⟩, ⟨(some 17), (.pick (.t 10) (.c (.bool (.lit true))) (.t 16)), none⟩, ⟨(some 18), (.p (.mv (.t 17))), none⟩, ⟨(some 19), (.p (.mv (.t 0))), (some (18, false))⟩, ⟨(some 20), (.p (.bin 0 .geq (.t 19) (.c (.int .i64 (.lit 51))))), (some (18, false))⟩, ⟨(some 21), (.p (.mv (.t 20))), (some (18, false))⟩, ⟨(some 22), (.p (.mv (.t 0))), (some (21, true))⟩, ⟨(some 23), (.p (.bin 0 .leq (.t 22) (.c (.int .i64 (.lit 58))))), (some (21, true))⟩, ⟨(some 24), (.pick (.t 21) (.t 23) (.c (.bool (.lit false)))), (some (18, false))⟩, ⟨(some 25), (.pick (.t 18) (.c (.bool (.lit true))) (.t 24)), none⟩, ⟨(some 3), (.p (.mv (.t 25))), none⟩])
 (.cond (.t 3) (.seq (.reg [⟨(some 2), (.p (.mv (.c (.int .i64 (.lit 1))))), none⟩])
 .ret)
 (.seq (.reg [⟨(some 27), (.p (.mv (.t 0))), none⟩, ⟨(some 28), (.p (.bin 0 .eql (.t 27) (.c (.int .i64 (.lit 3))))), none⟩, ⟨(some 29), (.p (.mv (.t 28))), none⟩, ⟨(some 30), (.p (.mv (.t 0))), (some (29, false))⟩, ⟨(some 31), (.p (.bin 0 .eql (.t 30) (.c (.int .i64 (.lit 4))))), (some (29, false))⟩, ⟨(some 32), (.pick (.t 29) (.c (.bool (.lit true))) (.t 31)), none⟩, ⟨(some 26), (.p (.mv (.t 32))), none⟩])
 (.cond (.t 26) (.seq (.reg [⟨(some 2), (.p (.mv (.c (.int .i64 (.lit 2))))), none⟩])
 .ret)
 (.seq (.reg [⟨(some 34), (.p (.mv (.t 0))), none⟩, ⟨(some 35), (.p (.bin 0 .geq (.t 34) (.c (.int .i64 (.lit 5))))), none⟩, ⟨(some 36), (.p (.mv (.t 35))), none⟩, ⟨(some 37), (.p (.mv (.t 0))), (some (36, true))⟩, ⟨(some 38), (.p (.bin 0 .leq (.t 37) (.c (.int .i64 (.lit 10))))), (some (36, true))⟩, ⟨(some 39), (.pick (.t 36) (.t 38) (.c (.bool (.lit false)))), none⟩, ⟨(some 33), (.p (.mv (.t 39))), none⟩])
 (.cond (.t 33) (.seq (.reg [⟨(some 2), (.p (.mv (.c (.int .i64 (.lit 3))))), none⟩])
 .ret)
 (.seq (.reg [⟨(some 41), (.p (.mv (.t 0))), none⟩, ⟨(some 42), (.p (.bin 0 .geq (.t 41) (.c (.int .i64 (.lit 11))))), none⟩, ⟨(some 43), (.p (.mv (.t 42))), none⟩, ⟨(some 44), (.p (.mv (.t 0))), (some (43, true))⟩, ⟨(some 45), (.p (.bin 0 .leq (.t 44) (.c (.int .i64 (.lit 15))))), (some (43, true))⟩, ⟨(some 46), (.pick (.t 43) (.t 45) (.c (.bool (.lit false)))), none⟩, ⟨(some 47), (.p (.mv (.t 46))), none⟩, ⟨(some 48), (.p (.mv (.t 0))), (some (47, false))⟩, ⟨(some 49), (.p (.bin 0 .eql (.t 48) (.c (.int .i64 (.lit 59))))), (some (47, false))⟩, ⟨(some 50), (.pick (.t 47) (.c (.bool (.lit true))) (.t 49)), none⟩, ⟨(some 40), (.p (.mv (.t 50))), none⟩])
 (.cond (.t 40) (.seq (.reg [⟨(some 2), (.p (.mv (.c (.int .i64 (.lit 4))))), none⟩])
 .ret)
 (.seq (.reg [⟨(some 52), (.p (.mv (.t 0))), none⟩, ⟨(some 53), (.p (.bin 0 .geq (.t 52) (.c (.int .i64 (.lit 16))))), none⟩, ⟨(some 54), (.p (.mv (.t 53))), none⟩, ⟨(some 55), (.p (.mv (.t 0))), (some (54, true))⟩, ⟨(some 56), (.p (.bin 0 .leq (.t 55) (.c (.int .i64 (.lit 18))))), (some (54, true))⟩, ⟨(some 57), (.pick (.t 54) (.t 56) (.c (.bool (.lit false)))), none⟩, ⟨(some 51), (.p (.mv (.t 57))), none⟩])
 (.cond (.t 51) (.seq (.reg [⟨(some 2), (.p (.mv (.c (.int .i64 (.lit 5))))), none⟩])
 .ret)
 (.seq (.reg [⟨(some 59), (.p (.mv (.t 0))), none⟩, ⟨(some 60), (.p (.bin 0 .geq (.t 59) (.c (.int .i64 (.lit 60))))), none⟩, ⟨(some 61), (.p (.mv (.t 60))), none⟩, ⟨(some 62), (.p (.mv (.t 0))), (some (61, true))⟩, ⟨(some 63), (.p (.bin 0 .leq (.t 62) (.c (.int .i64 (.lit 69))))), (some (61, true))⟩, ⟨(some 64), (.pick (.t 61) (.t 63) (.c (.bool (.lit false)))), none⟩, ⟨(some 58), (.p (.mv (.t 64))), none⟩])
 (.cond (.t 58) (.seq (.reg [⟨(some 2), (.p (.mv (.c (.int .i64 (.lit 6))))), none⟩])
 .ret)
 (.seq (.reg [⟨(some 66), (.p (.mv (.t 0))), none⟩, ⟨(some 67), (.p (.bin 0 .geq (.t 66) (.c (.int .i64 (.lit 1))))), none⟩, ⟨(some 68), (.p (.mv (.t 67))), none⟩, ⟨(some 69), (.p (.mv (.t 0))), (some (68, true))⟩, ⟨(some 70), (.p (.bin 0 .leq (.t 69) (.c (.int .i64 (.lit 69))))), (some (68, true))⟩, ⟨(some 71), (.pick (.t 68) (.t 70) (.c (.bool (.lit false)))), none⟩, ⟨(some 65), (.p (.mv (.t 71))), none⟩])
 (.cond (.t 65) (.seq (.reg [⟨(some 2), (.p (.mv (.c (.int .i64 (.lit 7))))), none⟩])
 .ret)
 .skip)))))))))))))))
 (.seq (.reg [⟨(some 2), (.p (.mv (.c (.int .i64 (.lit 0))))), none⟩])
 .ret)))⟩
/- corral/corralref1.Of -/
def af16 : AFunc := ⟨32, [.cell 2 true 14, .t 3],
 (.seq (.reg [⟨(some 2), (.newC [(.int .i64 (.lit 0)), (.str ⟨#[]⟩), (.int .u32 (.lit 0)), (.int .u32 (.lit 0)), (.int .u32 (.lit 0)), (.bool (.lit false)), (.bool (.lit false)), (.int .u8 (.lit 0)), (.bool (.lit false)), (.bool (.lit false)), (.bool (.lit false)), (.bool (.lit false)), (.int .u32 (.lit 0)), (.bool (.lit false))]), none⟩, ⟨(some 3), (.p (.mv (.c (.bool (.lit false))))), none⟩])
 (.seq (.seq (.reg [⟨(some 6), (.p (.mv (.t 0))), none⟩, ⟨(some 7), (.p (.bin 0 .lss (.t 6) (.c (.int .i64 (.lit 1))))), none⟩, ⟨(some 8), (.p (.mv (.t 7))), none⟩, ⟨(some 9), (.p (.mv (.t 0))), (some (8, false))⟩, ⟨(some 10), (.p (.bin 0 .gtr (.t 9) (.c (.int .i64 (.lit 69))))), (some (8, false))⟩, ⟨(some 11), (.pick (.t 8) (.c (.bool (.lit true))) (.t 10)), none⟩])
 (.cond (.t 11) (.seq (.reg [⟨(some 12), (.p (.build [(.int .i64 (.lit 0)), (.str ⟨#[]⟩), (.int .u32 (.lit 0)), (.int .u32 (.lit 0)), (.int .u32 (.lit 0)), (.bool (.lit false)), (.bool (.lit false)), (.int .u8 (.lit 0)), (.bool (.lit false)), (.bool (.lit false)), (.bool (.lit false)), (.bool (.lit false)), (.int .u32 (.lit 0)), (.bool (.lit false))] [])), none⟩, ⟨none, (.store 14 (.t 2) (.t 12)), none⟩, ⟨(some 3), (.p (.mv (.c (.bool (.lit false))))), none⟩])
 .ret)
 .skip))
 (.seq (.reg [⟨(some 13), (.call (.f 17) []), none⟩, ⟨(some 4), (.p (.mv (.t 13))), none⟩])
 (.seq (.seq (.reg [⟨(some 5), (.p (.mv (.c (.int .i64 (.lit 0))))), none⟩])
 (.block 0 (.loop (.seq (.seq (.reg [⟨(some 14), (.p (.mv (.t 5))), none⟩, ⟨(some 15), (.p (.mv (.t 4))), none⟩, ⟨(some 16), (.p (.lenS (.t 15))), none⟩, ⟨(some 17), (.p (.bin 0 .lss (.t 14) (.t 16))), none⟩])
 (.cond (.t 17) .skip
 (.exit 0)))
 (.seq (.block 1 (.seq (.reg [⟨(some 20), (.p (.mv (.t 4))), none⟩, ⟨(some 21), (.p (.mv (.t 5))), none⟩, ⟨(some 22), (.p (.idxSl 14 (.t 20) (.t 21))), none⟩, ⟨(some 23), (.p (.fieldAddr 0 (.t 22))), none⟩, ⟨(some 24), (.load false 1 (.t 23)), none⟩, ⟨(some 25), (.p (.mv (.t 0))), none⟩, ⟨(some 26), (.p (.bin 0 .eql (.t 24) (.t 25))), none⟩])
 (.cond (.t 26) (.seq (.reg [⟨(some 27), (.p (.mv (.t 4))), none⟩, ⟨(some 28), (.p (.mv (.t 5))), none⟩, ⟨(some 29), (.p (.idxSl 14 (.t 27) (.t 28))), none⟩, ⟨(some 30), (.load true 14 (.t 29)), none⟩, ⟨none, (.store 14 (.t 2) (.t 30)), none⟩, ⟨(some 3), (.p (.mv (.c (.bool (.lit true))))), none⟩])
 .ret)
 .skip)))
 (.reg [⟨(some 18), (.p (.mv (.t 5))), none⟩, ⟨(some 19), (.p (.bin 0 .add (.t 18) (.c (.int .i64 (.lit 1))))), none⟩, ⟨(some 5), (.p (.mv (.t 19))), none⟩]))))))
 (.seq (.reg [⟨(some 31), (.p (.build [(.int .i64 (.lit 0)), (.str ⟨#[]⟩), (.int .u32 (.lit 0)), (.int .u32 (.lit 0)), (.int .u32 (.lit 0)), (.bool (.lit false)), (.bool (.lit false)), (.int .u8 (.lit 0)), (.bool (.lit false)), (.bool (.lit false)), (.bool (.lit false)), (.bool (.lit false)), (.int .u32 (.lit 0)), (.bool (.lit false))] [])), none⟩, ⟨none, (.store 14 (.t 2) (.t 31)), none⟩, ⟨(some 3), (.p (.mv (.c (.bool (.lit false))))), none⟩])
 .ret)))))⟩
/- corral/corralref1.Rows -/
def af17 : AFunc := ⟨71, [.t 0],
 (.seq (.reg [⟨(some 0), (.p (.mv (.c .nilSlice))), none⟩])
 (.seq (.reg [⟨(some 1), (.call (.f 27) [(.c (.int .i64 (.lit 1))), (.c (.str ⟨#[108, 117, 105]⟩)), (.c (.int .i64 (.lit 55))), (.c (.int .i64 (.lit (-1)))), (.c (.int .i64 (.lit (-1)))), (.c (.int .u8 (.lit 85))), (.c (.str ⟨#[100]⟩))]), none⟩, ⟨(some 2), (.call (.f 27) [(.c (.int .i64 (.lit 2))), (.c (.str ⟨#[97, 117, 105, 112, 99]⟩)), (.c (.int .i64 (.lit 23))), (.c (.int .i64 (.lit (-1)))), (.c (.int .i64 (.lit (-1)))), (.c (.int .u8 (.lit 85))), (.c (.str ⟨#[100]⟩))]), none⟩, ⟨(some 3), (.call (.f 27) [(.c (.int .i64 (.lit 3))), (.c (.str ⟨#[106, 97, 108]⟩)), (.c (.int .i64 (.lit 111))), (.c (.int .i64 (.lit (-1)))), (.c (.int .i64 (.lit (-1)))), (.c (.int .u8 (.lit 74))), (.c (.str ⟨#[100]⟩))]), none⟩, ⟨(some 4), (.call (.f 27) [(.c (.int .i64 (.lit 4))), (.c (.str ⟨#[106, 97, 108, 114]⟩)), (.c (.int .i64 (.lit 103))), (.c (.int .i64 (.lit 0))), (.c (.int .i64 (.lit (-1)))), (.c (.int .u8 (.lit 73))), (.c (.str ⟨#[100, 97]⟩))]), none⟩, ⟨(some 5), (.call (.f 27) [(.c (.int .i64 (.lit 5))), (.c (.str ⟨#[98, 101, 113]⟩)), (.c (.int .i64 (.lit 99))), (.c (.int .i64 (.lit 0))), (.c (.int .i64 (.lit (-1)))), (.c (.int .u8 (.lit 66))), (.c (.str ⟨#[97, 98]⟩))]), none⟩, ⟨(some 6), (.call (.f 27) [(.c (.int .i64 (.lit 6))), (.c (.str ⟨#[98, 110, 101]⟩)), (.c (.int .i64 (.lit 99))), (.c (.int .i64 (.lit 1))), (.c (.int .i64 (.lit (-1)))), (.c (.int .u8 (.lit 66))), (.c (.str ⟨#[97, 98]⟩))]), none⟩, ⟨(some 7), (.call (.f 27) [(.c (.int .i64 (.lit 7))), (.c (.str ⟨#[98, 108, 116]⟩)), (.c (.int .i64 (.lit 99))), (.c (.int .i64 (.lit 4))), (.c (.int .i64 (.lit (-1)))), (.c (.int .u8 (.lit 66))), (.c (.str ⟨#[97, 98]⟩))]), none⟩, ⟨(some 8), (.call (.f 27) [(.c (.int .i64 (.lit 8))), (.c (.str ⟨#[98, 103, 101]⟩)), (.c (.int .i64 (.lit 99))), (.c (.int .i64 (.lit 5))), (.c (.int .i64 (.lit (-1)))), (.c (.int .u8 (.lit 66))), (.c (.str ⟨#[97, 98]⟩))]), none⟩, ⟨(some 9), (.call (.f 27) [(.c (.int .i64 (.lit 9))), (.c (.str ⟨#[98, 108, 116, 117]⟩)), (.c (.int .i64 (.lit 99))), (.c (.int .i64 (.lit 6))), (.c (.int .i64 (.lit (-1)))), (.c (.int .u8 (.lit 66))), (.c (.str ⟨#[97, 98]⟩))]), none⟩, ⟨(some 10), (.call (.f 27) [(.c (.int .i64 (.lit 10))), (.c (.str ⟨#[98, 103, 101, 117]⟩)), (.c (.int .i64 (.lit 99))), (.c (.int .i64 (.lit 7))), (.c (.int .i64 (.lit (-1)))), (.c (.int .u8 (.lit 66))), (.c (.str ⟨#[97, 98]⟩))]), none⟩, ⟨(some 11), (.call (.f 27) [(.c (.int .i64 (.lit 11))), (.c (.str ⟨#[108, 98]⟩)), (.c (.int .i64 (.lit 3))), (.c (.int .i64 (.lit 0))), (.c (.int .i64 (.lit (-1)))), (.c (.int .u8 (.lit 73))), (.c (.str ⟨#[100, 97]⟩))]), none⟩, ⟨(some 12), (.call (.f 27) [(.c (.int .i64 (.lit 12))), (.c (.str ⟨#[108, 104]⟩)), (.c (.int .i64 (.lit 3))), (.c (.int .i64 (.lit 1))), (.c (.int .i64 (.lit (-1)))), (.c (.int .u8 (.lit 73))), (.c (.str ⟨#[100, 97]⟩))]), none⟩, ⟨(some 13), (.call (.f 27) [(.c (.int .i64 (.lit 13))), (.c (.str ⟨#[108, 119]⟩)), (.c (.int .i64 (.lit 3))), (.c (.int .i64 (.lit 2))), (.c (.int .i64 (.lit (-1)))), (.c (.int .u8 (.lit 73))), (.c (.str ⟨#[100, 97]⟩))]), none⟩, ⟨(some 14), (.call (.f 27) [(.c (.int .i64 (.lit 14))), (.c (.str ⟨#[108, 98, 117]⟩)), (.c (.int .i64 (.lit 3))), (.c (.int .i64 (.lit 4))), (.c (.int .i64 (.lit (-1)))), (.c (.int .u8 (.lit 73))), (.c (.str ⟨#[100, 97]⟩))]), none⟩, ⟨(some 15), (.call (.f 27) [(.c (.int .i64 (.lit 15))), (.c (.str ⟨#[108, 104, 117]⟩)), (.c (.int .i64 (.lit 3))), (.c (.int .i64 (.lit 5))), (.c (.int .i64 (.lit (-1)))), (.c (.int .u8 (.lit 73))), (.c (.str ⟨#[100, 97]⟩))]), none⟩, ⟨(some 16), (.call (.f 27) [(.c (.int .i64 (.lit 16))), (.c (.str ⟨#[115, 98]⟩)), (.c (.int .i64 (.lit 35))), (.c (.int .i64 (.lit 0))), (.c (.int .i64 (.lit (-1)))), (.c (.int .u8 (.lit 83))), (.c (.str ⟨#[97, 98]⟩))]), none⟩, ⟨(some 17), (.call (.f 27) [(.c (.int .i64 (.lit 17))), (.c (.str ⟨#[115, 104]⟩)), (.c (.int .i64 (.lit 35))), (.c (.int .i64 (.lit 1))), (.c (.int .i64 (.lit (-1)))), (.c (.int .u8 (.lit 83))), (.c (.str ⟨#[97, 98]⟩))]), none⟩, ⟨(some 18), (.call (.f 27) [(.c (.int .i64 (.lit 18))), (.c (.str ⟨#[115, 119]⟩)), (.c (.int .i64 (.lit 35))), (.c (.int .i64 (.lit 2))), (.c (.int .i64 (.lit (-1)))), (.c (.int .u8 (.lit 83))), (.c (.str ⟨#[97, 98]⟩))]), none⟩, ⟨(some 19), (.call (.f 27) [(.c (.int .i64 (.lit 19))), (.c (.str ⟨#[97, 100, 100, 105]⟩)), (.c (.int .i64 (.lit 19))), (.c (.int .i64 (.lit 0))), (.c (.int .i64 (.lit (-1)))), (.c (.int .u8 (.lit 73))), (.c (.str ⟨#[100, 97]⟩))]), none⟩, ⟨(some 20), (.call (.f 27) [(.c (.int .i64 (.lit 20))), (.c (.str ⟨#[115, 108, 116, 105]⟩)), (.c (.int .i64 (.lit 19))), (.c (.int .i64 (.lit 2))), (.c (.int .i64 (.lit (-1)))), (.c (.int .u8 (.lit 73))), (.c (.str ⟨#[100, 97]⟩))]), none⟩, ⟨(some 21), (.call (.f 27) [(.c (.int .i64 (.lit 21))), (.c (.str ⟨#[115, 108, 116, 105, 117]⟩)), (.c (.int .i64 (.lit 19))), (.c (.int .i64 (.lit 3))), (.c (.int .i64 (.lit (-1)))), (.c (.int .u8 (.lit 73))), (.c (.str ⟨#[100, 97]⟩))]), none⟩, ⟨(some 22), (.call (.f 27) [(.c (.int .i64 (.lit 22))), (.c (.str ⟨#[120, 111, 114, 105]⟩)), (.c (.int .i64 (.lit 19))), (.c (.int .i64 (.lit 4))), (.c (.int .i64 (.lit (-1)))), (.c (.int .u8 (.lit 73))), (.c (.str ⟨#[100, 97]⟩))]), none⟩, ⟨(some 23), (.call (.f 27) [(.c (.int .i64 (.lit 23))), (.c (.str ⟨#[111, 114, 105]⟩)), (.c (.int .i64 (.lit 19))), (.c (.int .i64 (.lit 6))), (.c (.int .i64 (.lit (-1)))), (.c (.int .u8 (.lit 73))), (.c (.str ⟨#[100, 97]⟩))]), none⟩, ⟨(some 24), (.call (.f 27) [(.c (.int .i64 (.lit 24))), (.c (.str ⟨#[97, 110, 100, 105]⟩)), (.c (.int .i64 (.lit 19))), (.c (.int .i64 (.lit 7))), (.c (.int .i64 (.lit (-1)))), (.c (.int .u8 (.lit 73))), (.c (.str ⟨#[100, 97]⟩))]), none⟩, ⟨(some 25), (.call (.f 27) [(.c (.int .i64 (.lit 25))), (.c (.str ⟨#[115, 108, 108, 105]⟩)), (.c (.int .i64 (.lit 19))), (.c (.int .i64 (.lit 1))), (.c (.int .i64 (.lit 0))), (.c (.int .u8 (.lit 90))), (.c (.str ⟨#[100, 97]⟩))]), none⟩, ⟨(some 26), (.call (.f 27) [(.c (.int .i64 (.lit 26))), (.c (.str ⟨#[115, 114, 108, 105]⟩)), (.c (.int .i64 (.lit 19))), (.c (.int .i64 (.lit 5))), (.c (.int .i64 (.lit 0))), (.c (.int .u8 (.lit 90))), (.c (.str ⟨#[100, 97]⟩))]), none⟩, ⟨(some 27), (.call (.f 27) [(.c (.int .i64 (.lit 27))), (.c (.str ⟨#[115, 114, 97, 105]⟩)), (.c (.int .i64 (.lit 19))), (.c (.int .i64 (.lit 5))), (.c (.int .i64 (.lit 32))), (.c (.int .u8 (.lit 90))), (.c (.str ⟨#[100, 97]⟩))]), none⟩, ⟨(some 28), (.call (.f 27) [(.c (.int .i64 (.lit 28))), (.c (.str ⟨#[97, 100, 100]⟩)), (.c (.int .i64 (.lit 51))), (.c (.int .i64 (.lit 0))), (.c (.int .i64 (.lit 0))), (.c (.int .u8 (.lit 0))), (.c (.str ⟨#[100, 97, 98]⟩))]), none⟩, ⟨(some 29), (.call (.f 27) [(.c (.int .i64 (.lit 29))), (.c (.str ⟨#[115, 117, 98]⟩)), (.c (.int .i64 (.lit 51))), (.c (.int .i64 (.lit 0))), (.c (.int .i64 (.lit 32))), (.c (.int .u8 (.lit 0))), (.c (.str ⟨#[100, 97, 98]⟩))]), none⟩, ⟨(some 30), (.call (.f 27) [(.c (.int .i64 (.lit 30))), (.c (.str ⟨#[115, 108, 108]⟩)), (.c (.int .i64 (.lit 51))), (.c (.int .i64 (.lit 1))), (.c (.int .i64 (.lit 0))), (.c (.int .u8 (.lit 0))), (.c (.str ⟨#[100, 97, 98]⟩))]), none⟩, ⟨(some 31), (.call (.f 27) [(.c (.int .i64 (.lit 31))), (.c (.str ⟨#[115, 108, 116]⟩)), (.c (.int .i64 (.lit 51))), (.c (.int .i64 (.lit 2))), (.c (.int .i64 (.lit 0))), (.c (.int .u8 (.lit 0))), (.c (.str ⟨#[100, 97, 98]⟩))]), none⟩, ⟨(some 32), (.call (.f 27) [(.c (.int .i64 (.lit 32))), (.c (.str ⟨#[115, 108, 116, 117]⟩)), (.c (.int .i64 (.lit 51))), (.c (.int .i64 (.lit 3))), (.c (.int .i64 (.lit 0))), (.c (.int .u8 (.lit 0))), (.c (.str ⟨#[100, 97, 98]⟩))]), none⟩, ⟨(some 33), (.call (.f 27) [(.c (.int .i64 (.lit 33))), (.c (.str ⟨#[120, 111, 114]⟩)), (.c (.int .i64 (.lit 51))), (.c (.int .i64 (.lit 4))), (.c (.int .i64 (.lit 0))), (.c (.int .u8 (.lit 0))), (.c (.str ⟨#[100, 97, 98]⟩))]), none⟩, ⟨(some 34), (.call (.f 27) [(.c (.int .i64 (.lit 34))), (.c (.str ⟨#[115, 114, 108]⟩)), (.c (.int .i64 (.lit 51))), (.c (.int .i64 (.lit 5))), (.c (.int .i64 (.lit 0))), (.c (.int .u8 (.lit 0))), (.c (.str ⟨#[100, 97, 98]⟩))]), none⟩, ⟨(some 35), (.call (.f 27) [(.c (.int .i64 (.lit 35))), (.c (.str ⟨#[115, 114, 97]⟩)), (.c (.int .i64 (.lit 51))), (.c (.int .i64 (.lit 5))), (.c (.int .i64 (.lit 32))), (.c (.int .u8 (.lit 0))), (.c (.str ⟨#[100, 97, 98]⟩))]), none⟩, ⟨(some 36), (.call (.f 27) [(.c (.int .i64 (.lit 36))), (.c (.str ⟨#[111, 114]⟩)), (.c (.int .i64 (.lit 51))), (.c (.int .i64 (.lit 6))), (.c (.int .i64 (.lit 0))), (.c (.int .u8 (.lit 0))), (.c (.str ⟨#[100, 97, 98]⟩))]), none⟩, ⟨(some 37), (.call (.f 27) [(.c (.int .i64 (.lit 37))), (.c (.str ⟨#[97, 110, 100]⟩)), (.c (.int .i64 (.lit 51))), (.c (.int .i64 (.lit 7))), (.c (.int .i64 (.lit 0))), (.c (.int .u8 (.lit 0))), (.c (.str ⟨#[100, 97, 98]⟩))]), none⟩, ⟨(some 38), (.call (.f 27) [(.c (.int .i64 (.lit 38))), (.c (.str ⟨#[102, 101, 110, 99, 101]⟩)), (.c (.int .i64 (.lit 15))), (.c (.int .i64 (.lit 0))), (.c (.int .i64 (.lit (-1)))), (.c (.int .u8 (.lit 70))), (.c (.str ⟨#[]⟩))]), none⟩, ⟨(some 39), (.call (.f 28) [(.c (.int .i64 (.lit 39))), (.c (.str ⟨#[102, 101, 110, 99, 101, 46, 105]⟩)), (.c (.int .u32 (.lit 4111)))]), none⟩, ⟨(some 40), (.call (.f 28) [(.c (.int .i64 (.lit 40))), (.c (.str ⟨#[101, 99, 97, 108, 108]⟩)), (.c (.int .u32 (.lit 115)))]), none⟩, ⟨(some 41), (.call (.f 28) [(.c (.int .i64 (.lit 41))), (.c (.str ⟨#[101, 98, 114, 101, 97, 107]⟩)), (.c (.int .u32 (.lit 1048691)))]), none⟩, ⟨(some 42), (.call (.f 28) [(.c (.int .i64 (.lit 42))), (.c (.str ⟨#[109, 114, 101, 116]⟩)), (.c (.int .u32 (.lit 807403635)))]), none⟩, ⟨(some 43), (.call (.f 28) [(.c (.int .i64 (.lit 43))), (.c (.str ⟨#[119, 102, 105]⟩)), (.c (.int .u32 (.lit 273678451)))]), none⟩, ⟨(some 44), (.call (.f 27) [(.c (.int .i64 (.lit 44))), (.c (.str ⟨#[115, 102, 101, 110, 99, 101, 46, 118, 109, 97]⟩)), (.c (.int .i64 (.lit 115))), (.c (.int .i64 (.lit 0))), (.c (.int .i64 (.lit 9))), (.c (.int .u8 (.lit 0))), (.c (.str ⟨#[97, 98]⟩))]), none⟩, ⟨(some 45), (.call (.f 27) [(.c (.int .i64 (.lit 45))), (.c (.str ⟨#[99, 115, 114, 114, 119]⟩)), (.c (.int .i64 (.lit 115))), (.c (.int .i64 (.lit 1))), (.c (.int .i64 (.lit (-1)))), (.c (.int .u8 (.lit 0))), (.c (.str ⟨#[100, 97, 99]⟩))]), none⟩, ⟨(some 46), (.call (.f 27) [(.c (.int .i64 (.lit 46))), (.c (.str ⟨#[99, 115, 114, 114, 115]⟩)), (.c (.int .i64 (.lit 115))), (.c (.int .i64 (.lit 2))), (.c (.int .i64 (.lit (-1)))), (.c (.int .u8 (.lit 0))), (.c (.str ⟨#[100, 97, 99]⟩))]), none⟩, ⟨(some 47), (.call (.f 27) [(.c (.int .i64 (.lit 47))), (.c (.str ⟨#[99, 115, 114, 114, 99]⟩)), (.c (.int .i64 (.lit 115))), (.c (.int .i64 (.lit 3))), (.c (.int .i64 (.lit (-1)))), (.c (.int .u8 (.lit 0))), (.c (.str ⟨#[100, 97, 99]⟩))]), none⟩, ⟨(some 48), (.call (.f 27) [(.c (.int .i64 (.lit 48))), (.c (.str ⟨#[99, 115, 114, 114, 119, 105]⟩)), (.c (.int .i64 (.lit 115))), (.c (.int .i64 (.lit 5))), (.c (.int .i64 (.lit (-1)))), (.c (.int .u8 (.lit 67))), (.c (.str ⟨#[100, 99]⟩))]), none⟩, ⟨(some 49), (.call (.f 27) [(.c (.int .i64 (.lit 49))), (.c (.str ⟨#[99, 115, 114, 114, 115, 105]⟩)), (.c (.int .i64 (.lit 115))), (.c (.int .i64 (.lit 6))), (.c (.int .i64 (.lit (-1)))), (.c (.int .u8 (.lit 67))), (.c (.str ⟨#[100, 99]⟩))]), none⟩, ⟨(some 50), (.call (.f 27) [(.c (.int .i64 (.lit 50))), (.c (.str ⟨#[99, 115, 114, 114, 99, 105]⟩)), (.c (.int .i64 (.lit 115))), (.c (.int .i64 (.lit 7))), (.c (.int .i64 (.lit (-1)))), (.c (.int .u8 (.lit 67))), (.c (.str ⟨#[100, 99]⟩))]), none⟩, ⟨(some 51), (.call (.f 27) [(.c (.int .i64 (.lit 51))), (.c (.str ⟨#[109, 117, 108]⟩)), (.c (.int .i64 (.lit 51))), (.c (.int .i64 (.lit 0))), (.c (.int .i64 (.lit 1))), (.c (.int .u8 (.lit 0))), (.c (.str ⟨#[100, 97, 98]⟩))]), none⟩, ⟨(some 52), (.call (.f 27) [(.c (.int .i64 (.lit 52))), (.c (.str ⟨#[109, 117, 108, 104]⟩)), (.c (.int .i64 (.lit 51))), (.c (.int .i64 (.lit 1))), (.c (.int .i64 (.lit 1))), (.c (.int .u8 (.lit 0))), (.c (.str ⟨#[100, 97, 98]⟩))]), none⟩, ⟨(some 53), (.call (.f 27) [(.c (.int .i64 (.lit 53))), (.c (.str ⟨#[109, 117, 108, 104, 115, 117]⟩)), (.c (.int .i64 (.lit 51))), (.c (.int .i64 (.lit 2))), (.c (.int .i64 (.lit 1))), (.c (.int .u8 (.lit 0))), (.c (.str ⟨#[100, 97, 98]⟩))]), none⟩, ⟨(some 54), (.call (.f 27) [(.c (.int .i64 (.lit 54))), (.c (.str ⟨#[109, 117, 108, 104, 117]⟩)), (.c (.int .i64 (.lit 51))), (.c (.int .i64 (.lit 3))), (.c (.int .i64 (.lit 1))), (.c (.int .u8 (.lit 0))), (.c (.str ⟨#[100, 97, 98]⟩))]), none⟩, ⟨(some 55), (.call (.f 27) [(.c (.int .i64 (.lit 55))), (.c (.str ⟨#[100, 105, 118]⟩)), (.c (.int .i64 (.lit 51))), (.c (.int .i64 (.lit 4))), (.c (.int .i64 (.lit 1))), (.c (.int .u8 (.lit 0))), (.c (.str ⟨#[100, 97, 98]⟩))]), none⟩, ⟨(some 56), (.call (.f 27) [(.c (.int .i64 (.lit 56))), (.c (.str ⟨#[100, 105, 118, 117]⟩)), (.c (.int .i64 (.lit 51))), (.c (.int .i64 (.lit 5))), (.c (.int .i64 (.lit 1))), (.c (.int .u8 (.lit 0))), (.c (.str ⟨#[100, 97, 98]⟩))]), none⟩, ⟨(some 57), (.call (.f 27) [(.c (.int .i64 (.lit 57))), (.c (.str ⟨#[114, 101, 109]⟩)), (.c (.int .i64 (.lit 51))), (.c (.int .i64 (.lit 6))), (.c (.int .i64 (.lit 1))), (.c (.int .u8 (.lit 0))), (.c (.str ⟨#[100, 97, 98]⟩))]), none⟩, ⟨(some 58), (.call (.f 27) [(.c (.int .i64 (.lit 58))), (.c (.str ⟨#[114, 101, 109, 117]⟩)), (.c (.int .i64 (.lit 51))), (.c (.int .i64 (.lit 7))), (.c (.int .i64 (.lit 1))), (.c (.int .u8 (.lit 0))), (.c (.str ⟨#[100, 97, 98]⟩))]), none⟩, ⟨(some 59), (.call (.f 27) [(.c (.int .i64 (.lit 59))), (.c (.str ⟨#[108, 114, 46, 119]⟩)), (.c (.int .i64 (.lit 47))), (.c (.int .i64 (.lit 2))), (.c (.int .i64 (.lit 2))), (.c (.int .u8 (.lit 0))), (.c (.str ⟨#[100, 97, 112]⟩))]), none⟩, ⟨(some 60), (.call (.f 27) [(.c (.int .i64 (.lit 60))), (.c (.str ⟨#[115, 99, 46, 119]⟩)), (.c (.int .i64 (.lit 47))), (.c (.int .i64 (.lit 2))), (.c (.int .i64 (.lit 3))), (.c (.int .u8 (.lit 0))), (.c (.str ⟨#[100, 97, 98, 112]⟩))]), none⟩, ⟨(some 61), (.call (.f 27) [(.c (.int .i64 (.lit 61))), (.c (.str ⟨#[97, 109, 111, 115, 119, 97, 112, 46, 119]⟩)), (.c (.int .i64 (.lit 47))), (.c (.int .i64 (.lit 2))), (.c (.int .i64 (.lit 1))), (.c (.int .u8 (.lit 0))), (.c (.str ⟨#[100, 97, 98, 112]⟩))]), none⟩, ⟨(some 62), (.call (.f 27) [(.c (.int .i64 (.lit 62))), (.c (.str ⟨#[97, 109, 111, 97, 100, 100, 46, 119]⟩)), (.c (.int .i64 (.lit 47))), (.c (.int .i64 (.lit 2))), (.c (.int .i64 (.lit 0))), (.c (.int .u8 (.lit 0))), (.c (.str ⟨#[100, 97, 98, 112]⟩))]), none⟩, ⟨(some 63), (.call (.f 27) [(.c (.int .i64 (.lit 63))), (.c (.str ⟨#[97, 109, 111, 120, 111, 114, 46, 119]⟩)), (.c (.int .i64 (.lit 47))), (.c (.int .i64 (.lit 2))), (.c (.int .i64 (.lit 4))), (.c (.int .u8 (.lit 0))), (.c (.str ⟨#[100, 97, 98, 112]⟩))]), none⟩, ⟨(some 64), (.call (.f 27) [(.c (.int .i64 (.lit 64))), (.c (.str ⟨#[97, 109, 111, 97, 110, 100, 46, 119]⟩)), (.c (.int .i64 (.lit 47))), (.c (.int .i64 (.lit 2))), (.c (.int .i64 (.lit 12))), (.c (.int .u8 (.lit 0))), (.c (.str ⟨#[100, 97, 98, 112]⟩))]), none⟩, ⟨(some 65), (.call (.f 27) [(.c (.int .i64 (.lit 65))), (.c (.str ⟨#[97, 109, 111, 111, 114, 46, 119]⟩)), (.c (.int .i64 (.lit 47))), (.c (.int .i64 (.lit 2))), (.c (.int .i64 (.lit 8))), (.c (.int .u8 (.lit 0))), (.c (.str ⟨#[100, 97, 98, 112]⟩))]), none⟩, ⟨(some 66), (.call (.f 27) [(.c (.int .i64 (.lit 66))), (.c (.str ⟨#[97, 109, 111, 109, 105, 110, 46, 119]⟩)), (.c (.int .i64 (.lit 47))), (.c (.int .i64 (.lit 2))), (.c (.int .i64 (.lit 16))), (.c (.int .u8 (.lit 0))), (.c (.str ⟨#[100, 97, 98, 112]⟩))]), none⟩, ⟨(some 67), (.call (.f 27) [(.c (.int .i64 (.lit 67))), (.c (.str ⟨#[97, 109, 111, 109, 97, 120, 46, 119]⟩)), (.c (.int .i64 (.lit 47))), (.c (.int .i64 (.lit 2))), (.c (.int .i64 (.lit 20))), (.c (.int .u8 (.lit 0))), (.c (.str ⟨#[100, 97, 98, 112]⟩))]), none⟩, ⟨(some 68), (.call (.f 27) [(.c (.int .i64 (.lit 68))), (.c (.str ⟨#[97, 109, 111, 109, 105, 110, 117, 46, 119]⟩)), (.c (.int .i64 (.lit 47))), (.c (.int .i64 (.lit 2))), (.c (.int .i64 (.lit 24))), (.c (.int .u8 (.lit 0))), (.c (.str ⟨#[100, 97, 98, 112]⟩))]), none⟩, ⟨(some 69), (.call (.f 27) [(.c (.int .i64 (.lit 69))), (.c (.str ⟨#[97, 109, 111, 109, 97, 120, 117, 46, 119]⟩)), (.c (.int .i64 (.lit 47))), (.c (.int .i64 (.lit 2))), (.c (.int .i64 (.lit 28))), (.c (.int .u8 (.lit 0))), (.c (.str ⟨#[100, 97, 98, 112]⟩))]), none⟩, ⟨(some 70), (.mkArr 14 69 [(.int .i64 (.lit 0)), (.str ⟨#[]⟩), (.int .u32 (.lit 0)), (.int .u32 (.lit 0)), (.int .u32 (.lit 0)), (.bool (.lit false)), (.bool (.lit false)), (.int .u8 (.lit 0)), (.bool (.lit false)), (.bool (.lit false)), (.bool (.lit false)), (.bool (.lit false)), (.int .u32 (.lit 0)), (.bool (.lit false))] [(0, 14, (.t 1)), (14, 14, (.t 2)), (28, 14, (.t 3)), (42, 14, (.t 4)), (56, 14, (.t 5)), (70, 14, (.t 6)), (84, 14, (.t 7)), (98, 14, (.t 8)), (112, 14, (.t 9)), (126, 14, (.t 10)), (140, 14, (.t 11)), (154, 14, (.t 12)), (168, 14, (.t 13)), (182, 14, (.t 14)), (196, 14, (.t 15)), (210, 14, (.t 16)), (224, 14, (.t 17)), (238, 14, (.t 18)), (252, 14, (.t 19)), (266, 14, (.t 20)), (280, 14, (.t 21)), (294, 14, (.t 22)), (308, 14, (.t 23)), (322, 14, (.t 24)), (336, 14, (.t 25)), (350, 14, (.t 26)), (364, 14, (.t 27)), (378, 14, (.t 28)), (392, 14, (.t 29)), (406, 14, (.t 30)), (420, 14, (.t 31)), (434, 14, (.t 32)), (448, 14, (.t 33)), (462, 14, (.t 34)), (476, 14, (.t 35)), (490, 14, (.t 36)), (504, 14, (.t 37)), (518, 14, (.t 38)), (532, 14, (.t 39)), (546, 14, (.t 40)), (560, 14, (.t 41)), (574, 14, (.t 42)), (588, 14, (.t 43)), (602, 14, (.t 44)), (616, 14, (.t 45)), (630, 14, (.t 46)), (644, 14, (.t 47)), (658, 14, (.t 48)), (672, 14, (.t 49)), (686, 14, (.t 50)), (700, 14, (.t 51)), (714, 14, (.t 52)), (728, 14, (.t 53)), (742, 14, (.t 54)), (756, 14, (.t 55)), (770, 14, (.t 56)), (784, 14, (.t 57)), (798, 14, (.t 58)), (812, 14, (.t 59)), (826, 14, (.t 60)), (840, 14, (.t 61)), (854, 14, (.t 62)), (868, 14, (.t 63)), (882, 14, (.t 64)), (896, 14, (.t 65)), (910, 14, (.t 66)), (924, 14, (.t 67)), (938, 14, (.t 68)), (952, 14, (.t 69))]), none⟩, ⟨(some 0), (.p (.mv (.t 70))), none⟩])
 .ret))⟩
/- corral/isa.Op -/
def af18 : AFunc := ⟨18, [.t 2],
 (.seq (.reg [⟨(some 2), (.p (.mv (.c (.int .i64 (.lit 0))))), none⟩])
 (.seq (.seq (.reg [⟨(some 5), (.call (.f 24) []), none⟩, ⟨(some 6), (.p (.lenS (.t 5))), none⟩, ⟨(some 7), (.p (.mv (.c (.int .i64 (.lit 0))))), none⟩])
 (.block 0 (.loop (.seq (.reg [⟨(some 8), (.p (.bin 0 .lss (.t 7) (.t 6))), none⟩])
 (.seq (.cond (.t 8) .skip
 (.exit 0))
 (.seq (.block 1 (.seq (.reg [⟨(some 9), (.p (.idxSl 7 (.t 5) (.t 7))), none⟩, ⟨(some 10), (.load true 7 (.t 9)), none⟩, ⟨(some 4), (.newC [(.int .i64 (.lit 0)), (.str ⟨#[]⟩), (.int .i64 (.lit 0)), (.int .u32 (.lit 0)), (.int .u32 (.lit 0)), (.int .u32 (.lit 0)), (.int .i64 (.lit 0))]), none⟩, ⟨none, (.store 7 (.t 4) (.t 10)), none⟩])
 (.seq (.reg [⟨(some 11), (.p (.fieldAddr 1 (.t 4))), none⟩, ⟨(some 12), (.load false 1 (.t 11)), none⟩, ⟨(some 13), (.p (.mv (.t 0))), none⟩, ⟨(some 14), (.p (.bin 2 .eql (.t 12) (.t 13))), none⟩])
 (.cond (.t 14) (.seq (.reg [⟨(some 15), (.p (.fieldAddr 0 (.t 4))), none⟩, ⟨(some 16), (.load false 1 (.t 15)), none⟩, ⟨(some 2), (.p (.mv (.t 16))), none⟩])
 .ret)
 .skip))))
 (.reg [⟨(some 17), (.p (.bin 0 .add (.t 7) (.c (.int .i64 (.lit 1))))), none⟩, ⟨(some 7), (.p (.mv (.t 17))), none⟩])))))))
 (.seq (.reg [⟨(some 2), (.p (.mv (.c (.int .i64 (.lit 0))))), none⟩])
 .ret)))⟩
/- corral/corralsee.Is -/
def af19 : AFunc := ⟨9, [.t 4],
 (.seq (.reg [⟨(some 4), (.p (.mv (.c (.bool (.lit false))))), none⟩])
 (.seq (.reg [⟨(some 5), (.p (.mv (.t 0))), none⟩, ⟨(some 6), (.p (.mv (.t 1))), none⟩, ⟨(some 7), (.call (.f 30) [(.t 6)]), none⟩, ⟨(some 8), (.call (.f 29) [(.t 5), (.t 7)]), none⟩, ⟨(some 4), (.p (.mv (.t 8))), none⟩])
 .ret))⟩
/- corral/isa.find -/
def af20 : AFunc := ⟨16, [.cell 2 true 7, .t 3],
 (.seq (.reg [⟨(some 2), (.newC [(.int .i64 (.lit 0)), (.str ⟨#[]⟩), (.int .i64 (.lit 0)), (.int .u32 (.lit 0)), (.int .u32 (.lit 0)), (.int .u32 (.lit 0)), (.int .i64 (.lit 0))]), none⟩, ⟨(some 3), (.p (.mv (.c (.bool (.lit false))))), none⟩])
 (.seq (.seq (.reg [⟨(some 4), (.p (.mv (.t 0))), none⟩, ⟨(some 5), (.p (.bin 0 .lss (.t 4) (.c (.int .i64 (.lit 1))))), none⟩, ⟨(some 6), (.p (.mv (.t 5))), none⟩, ⟨(some 7), (.p (.mv (.t 0))), (some (6, false))⟩, ⟨(some 8), (.p (.bin 0 .gtr (.t 7) (.c (.int .i64 (.lit 69))))), (some (6, false))⟩, ⟨(some 9), (.pick (.t 6) (.c (.bool (.lit true))) (.t 8)), none⟩])
 (.cond (.t 9) (.seq (.reg [⟨(some 10), (.p (.build [(.int .i64 (.lit 0)), (.str ⟨#[]⟩), (.int .i64 (.lit 0)), (.int .u32 (.lit 0)), (.int .u32 (.lit 0)), (.int .u32 (.lit 0)), (.int .i64 (.lit 0))] [])), none⟩, ⟨none, (.store 7 (.t 2) (.t 10)), none⟩, ⟨(some 3), (.p (.mv (.c (.bool (.lit false))))), none⟩])
 .ret)
 .skip))
 (.seq (.reg [⟨(some 11), (.call (.f 24) []), none⟩, ⟨(some 12), (.p (.mv (.t 0))), none⟩, ⟨(some 13), (.p (.bin 0 .sub (.t 12) (.c (.int .i64 (.lit 1))))), none⟩, ⟨(some 14), (.p (.idxSl 7 (.t 11) (.t 13))), none⟩, ⟨(some 15), (.load true 7 (.t 14)), none⟩, ⟨none, (.store 7 (.t 2) (.t 15)), none⟩, ⟨(some 3), (.p (.mv (.c (.bool (.lit true))))), none⟩])
 .ret)))⟩
/- (corral/isa.row).uses -/
def af21 : AFunc := ⟨26, [.t 2, .t 3, .t 4, .t 5],
 (.seq (.reg [⟨(some 1), (.box 7 (.t 0)), none⟩, ⟨(some 2), (.p (.mv (.c (.bool (.lit false))))), none⟩, ⟨(some 3), (.p (.mv (.c (.bool (.lit false))))), none⟩, ⟨(some 4), (.p (.mv (.c (.bool (.lit false))))), none⟩, ⟨(some 5), (.p (.mv (.c (.bool (.lit false))))), none⟩])
 (.seq (.reg [⟨(some 7), (.p (.mkFunc 31 [] [(.t 1)])), none⟩, ⟨(some 6), (.p (.mv (.t 7))), none⟩])
 (.seq (.reg [⟨(some 8), (.p (.mv (.t 6))), none⟩, ⟨(some 9), (.mkArr 1 5 [(.int .i64 (.lit 0))] [(0, 1, (.c (.int .i64 (.lit 3)))), (1, 1, (.c (.int .i64 (.lit 4)))), (2, 1, (.c (.int .i64 (.lit 7)))), (3, 1, (.c (.int .i64 (.lit 8)))), (4, 1, (.c (.int .i64 (.lit 9))))]), none⟩, ⟨(some 10), (.call (.t 8) [(.t 9)]), none⟩, ⟨(some 11), (.p (.un .not (.t 10))), none⟩, ⟨(some 2), (.p (.mv (.t 11))), none⟩])
 (.seq (.reg [⟨(some 12), (.p (.mv (.t 6))), none⟩, ⟨(some 13), (.mkArr 1 5 [(.int .i64 (.lit 0))] [(0, 1, (.c (.int .i64 (.lit 0)))), (1, 1, (.c (.int .i64 (.lit 1)))), (2, 1, (.c (.int .i64 (.lit 7)))), (3, 1, (.c (.int .i64 (.lit 8)))), (4, 1, (.c (.int .i64 (.lit 11))))]), none⟩, ⟨(some 14), (.call (.t 12) [(.t 13)]), none⟩, ⟨(some 15), (.p (.un .not (.t 14))), none⟩, ⟨(some 3), (.p (.mv (.t 15))), none⟩])
 (.seq (.reg [⟨(some 16), (.p (.mv (.t 6))), none⟩, ⟨(some 17), (.mkArr 1 5 [(.int .i64 (.lit 0))] [(0, 1, (.c (.int .i64 (.lit 3)))), (1, 1, (.c (.int .i64 (.lit 4)))), (2, 1, (.c (.int .i64 (.lit 6)))), (3, 1, (.c (.int .i64 (.lit 9)))), (4, 1, (.c (.int .i64 (.lit 13))))]), none⟩, ⟨(some 18), (.call (.t 16) [(.t 17)]), none⟩, ⟨(some 4), (.p (.mv (.t 18))), none⟩])
 (.seq (.reg [⟨(some 19), (.p (.mv (.t 6))), none⟩, ⟨(some 20), (.mkArr 1 8 [(.int .i64 (.lit 0))] [(0, 1, (.c (.int .i64 (.lit 0)))), (1, 1, (.c (.int .i64 (.lit 1)))), (2, 1, (.c (.int .i64 (.lit 2)))), (3, 1, (.c (.int .i64 (.lit 3)))), (4, 1, (.c (.int .i64 (.lit 4)))), (5, 1, (.c (.int .i64 (.lit 5)))), (6, 1, (.c (.int .i64 (.lit 7)))), (7, 1, (.c (.int .i64 (.lit 11))))]), none⟩, ⟨(some 21), (.call (.t 19) [(.t 20)]), none⟩, ⟨(some 5), (.p (.mv (.t 21))), none⟩])
 (.seq (.reg [⟨(some 22), (.p (.mv (.t 2))), none⟩, ⟨(some 23), (.p (.mv (.t 3))), none⟩, ⟨(some 24), (.p (.mv (.t 4))), none⟩, ⟨(some 25), (.p (.mv (.t 5))), none⟩, ⟨(some 2), (.p (.mv (.t 22))), none⟩, ⟨(some 3), (.p (.mv (.t 23))), none⟩, ⟨(some 4), (.p (.mv (.t 24))), none⟩, ⟨(some 5), (.p (.mv (.t 25))), none⟩])
 .ret)))))))⟩
/- (corral/isa.row).lay -/
def af22 : AFunc := ⟨32, [.t 4, .t 5],
 (.seq (.reg [⟨(some 2), (.box 7 (.t 0)), none⟩, ⟨(some 4), (.p (.mv (.c (.int .u32 (.lit 0))))), none⟩, ⟨(some 5), (.p (.mv (.c (.bool (.lit false))))), none⟩])
 (.seq (.seq (.reg [⟨(some 6), (.p (.fieldAddr 2 (.t 2))), none⟩, ⟨(some 7), (.load false 1 (.t 6)), none⟩])
 (.block 0 (.seq (.reg [⟨(some 9), (.p (.bin 0 .eql (.t 7) (.c (.int .i64 (.lit 5))))), none⟩, ⟨(some 8), (.p (.mv (.t 9))), none⟩])
 (.cond (.t 8) (.seq (.reg [⟨(some 10), (.p (.mv (.t 1))), none⟩, ⟨(some 11), (.p (.bin 0 .shl (.t 10) (.c (.int .u64 (.lit 20))))), none⟩, ⟨(some 12), (.p (.mv (.t 1))), none⟩, ⟨(some 13), (.p (.bin 0 .lss (.t 12) (.c (.int .u32 (.lit 32))))), none⟩, ⟨(some 4), (.p (.mv (.t 11))), none⟩, ⟨(some 5), (.p (.mv (.t 13))), none⟩])
 .ret)
 (.seq (.reg [⟨(some 15), (.p (.bin 0 .eql (.t 7) (.c (.int .i64 (.lit 7))))), none⟩, ⟨(some 14), (.p (.mv (.t 15))), none⟩])
 (.cond (.t 14) (.seq (.reg [⟨(some 16), (.p (.mv (.t 1))), none⟩, ⟨(some 17), (.p (.bin 0 .shl (.t 16) (.c (.int .u64 (.lit 20))))), none⟩, ⟨(some 18), (.p (.mv (.t 1))), none⟩, ⟨(some 19), (.p (.bin 0 .lss (.t 18) (.c (.int .u32 (.lit 256))))), none⟩, ⟨(some 4), (.p (.mv (.t 17))), none⟩, ⟨(some 5), (.p (.mv (.t 19))), none⟩])
 .ret)
 (.seq (.reg [⟨(some 21), (.p (.bin 0 .eql (.t 7) (.c (.int .i64 (.lit 11))))), none⟩, ⟨(some 20), (.p (.mv (.t 21))), none⟩])
 (.cond (.t 20) (.seq (.reg [⟨(some 22), (.p (.mv (.t 1))), none⟩, ⟨(some 23), (.p (.bin 0 .shl (.t 22) (.c (.int .u64 (.lit 15))))), none⟩, ⟨(some 24), (.p (.mv (.t 1))), none⟩, ⟨(some 25), (.p (.bin 0 .lss (.t 24) (.c (.int .u32 (.lit 32))))), none⟩, ⟨(some 4), (.p (.mv (.t 23))), none⟩, ⟨(some 5), (.p (.mv (.t 25))), none⟩])
 .ret)
 .skip))))))))
 (.seq (.reg [⟨(some 26), (.load true 7 (.t 2)), none⟩, ⟨(some 27), (.call (.f 34) [(.t 26)]), none⟩, ⟨(some 28), (.p (.mv (.t 1))), none⟩, ⟨(some 29), (.call (.f 33) [(.t 27), (.t 28)]), none⟩, ⟨(some 30), (.p (.extract 0 (.t 29))), none⟩, ⟨(some 31), (.p (.extract 1 (.t 29))), none⟩, ⟨(some 4), (.p (.mv (.t 30))), none⟩, ⟨(some 5), (.p (.mv (.t 31))), none⟩])
 .ret)))⟩
/- corral/enc.Join -/
def af23 : AFunc := ⟨23, [.t 2],
 (.seq (.reg [⟨(some 1), (.box 6 (.t 0)), none⟩, ⟨(some 2), (.p (.mv (.c (.int .u32 (.lit 0))))), none⟩])
 (.seq (.reg [⟨(some 3), (.p (.fieldAddr 0 (.t 1))), none⟩, ⟨(some 4), (.load false 1 (.t 3)), none⟩, ⟨(some 5), (.p (.build [(.int .i64 (.lit 0)), (.int .i64 (.lit 0)), (.int .u32 (.lit 0))] [(0, 1, (.c (.int .i64 (.lit 0)))), (1, 1, (.c (.int .i64 (.lit 7)))), (2, 1, (.t 4))])), none⟩, ⟨(some 6), (.p (.fieldAddr 1 (.t 1))), none⟩, ⟨(some 7), (.load false 1 (.t 6)), none⟩, ⟨(some 8), (.p (.build [(.int .i64 (.lit 0)), (.int .i64 (.lit 0)), (.int .u32 (.lit 0))] [(0, 1, (.c (.int .i64 (.lit 7)))), (1, 1, (.c (.int .i64 (.lit 5)))), (2, 1, (.t 7))])), none⟩, ⟨(some 9), (.p (.fieldAddr 2 (.t 1))), none⟩, ⟨(some 10), (.load false 1 (.t 9)), none⟩, ⟨(some 11), (.p (.build [(.int .i64 (.lit 0)), (.int .i64 (.lit 0)), (.int .u32 (.lit 0))] [(0, 1, (.c (.int .i64 (.lit 12)))), (1, 1, (.c (.int .i64 (.lit 3)))), (2, 1, (.t 10))])), none⟩, ⟨(some 12), (.p (.fieldAddr 3 (.t 1))), none⟩, ⟨(some 13), (.load false 1 (.t 12)), none⟩, ⟨(some 14), (.p (.build [(.int .i64 (.lit 0)), (.int .i64 (.lit 0)), (.int .u32 (.lit 0))] [(0, 1, (.c (.int .i64 (.lit 15)))), (1, 1, (.c (.int .i64 (.lit 5)))), (2, 1, (.t 13))])), none⟩, ⟨(some 15), (.p (.fieldAddr 4 (.t 1))), none⟩, ⟨(some 16), (.load false 1 (.t 15)), none⟩, ⟨(some 17), (.p (.build [(.int .i64 (.lit 0)), (.int .i64 (.lit 0)), (.int .u32 (.lit 0))] [(0, 1, (.c (.int .i64 (.lit 20)))), (1, 1, (.c (.int .i64 (.lit 5)))), (2, 1, (.t 16))])), none⟩, ⟨(some 18), (.p (.fieldAddr 5 (.t 1))), none⟩, ⟨(some 19), (.load false 1 (.t 18)), none⟩, ⟨(some 20), (.p (.build [(.int .i64 (.lit 0)), (.int .i64 (.lit 0)), (.int .u32 (.lit 0))] [(0, 1, (.c (.int .i64 (.lit 25)))), (1, 1, (.c (.int .i64 (.lit 7)))), (2, 1, (.t 19))])), none⟩, ⟨(some 21), (.mkArr 3 6 [(.int .i64 (.lit 0)), (.int .i64 (.lit 0)), (.int .u32 (.lit 0))] [(0, 3, (.t 5)), (3, 3, (.t 8)), (6, 3, (.t 11)), (9, 3, (.t 14)), (12, 3, (.t 17)), (15, 3, (.t 20))]), none⟩, ⟨(some 22), (.call (.f 35) [(.t 21)]), none⟩, ⟨(some 2), (.p (.mv (.t 22))), none⟩])
 .ret))⟩
/- corral/isa.rows -/
def af24 : AFunc := ⟨71, [.t 0],
 (.seq (.reg [⟨(some 0), (.p (.mv (.c .nilSlice))), none⟩])
 (.seq (.reg [⟨(some 1), (.p (.build [(.int .i64 (.lit 0)), (.str ⟨#[]⟩), (.int .i64 (.lit 0)), (.int .u32 (.lit 0)), (.int .u32 (.lit 0)), (.int .u32 (.lit 0)), (.int .i64 (.lit 0))] [(0, 1, (.c (.int .i64 (.lit 1)))), (1, 1, (.c (.str ⟨#[108, 117, 105]⟩))), (2, 1, (.c (.int .i64 (.lit 0)))), (3, 1, (.c (.int .u32 (.lit 55)))), (4, 1, (.c (.int .u32 (.lit 0)))), (5, 1, (.c (.int .u32 (.lit 0)))), (6, 1, (.c (.int .i64 (.lit 1))))])), none⟩, ⟨(some 2), (.p (.build [(.int .i64 (.lit 0)), (.str ⟨#[]⟩), (.int .i64 (.lit 0)), (.int .u32 (.lit 0)), (.int .u32 (.lit 0)), (.int .u32 (.lit 0)), (.int .i64 (.lit 0))] [(0, 1, (.c (.int .i64 (.lit 2)))), (1, 1, (.c (.str ⟨#[97, 117, 105, 112, 99]⟩))), (2, 1, (.c (.int .i64 (.lit 0)))), (3, 1, (.c (.int .u32 (.lit 23)))), (4, 1, (.c (.int .u32 (.lit 0)))), (5, 1, (.c (.int .u32 (.lit 0)))), (6, 1, (.c (.int .i64 (.lit 1))))])), none⟩, ⟨(some 3), (.p (.build [(.int .i64 (.lit 0)), (.str ⟨#[]⟩), (.int .i64 (.lit 0)), (.int .u32 (.lit 0)), (.int .u32 (.lit 0)), (.int .u32 (.lit 0)), (.int .i64 (.lit 0))] [(0, 1, (.c (.int .i64 (.lit 3)))), (1, 1, (.c (.str ⟨#[106, 97, 108]⟩))), (2, 1, (.c (.int .i64 (.lit 1)))), (3, 1, (.c (.int .u32 (.lit 111)))), (4, 1, (.c (.int .u32 (.lit 0)))), (5, 1, (.c (.int .u32 (.lit 0)))), (6, 1, (.c (.int .i64 (.lit 2))))])), none⟩, ⟨(some 4), (.p (.build [(.int .i64 (.lit 0)), (.str ⟨#[]⟩), (.int .i64 (.lit 0)), (.int .u32 (.lit 0)), (.int .u32 (.lit 0)), (.int .u32 (.lit 0)), (.int .i64 (.lit 0))] [(0, 1, (.c (.int .i64 (.lit 4)))), (1, 1, (.c (.str ⟨#[106, 97, 108, 114]⟩))), (2, 1, (.c (.int .i64 (.lit 2)))), (3, 1, (.c (.int .u32 (.lit 103)))), (4, 1, (.c (.int .u32 (.lit 0)))), (5, 1, (.c (.int .u32 (.lit 0)))), (6, 1, (.c (.int .i64 (.lit 2))))])), none⟩, ⟨(some 5), (.p (.build [(.int .i64 (.lit 0)), (.str ⟨#[]⟩), (.int .i64 (.lit 0)), (.int .u32 (.lit 0)), (.int .u32 (.lit 0)), (.int .u32 (.lit 0)), (.int .i64 (.lit 0))] [(0, 1, (.c (.int .i64 (.lit 5)))), (1, 1, (.c (.str ⟨#[98, 101, 113]⟩))), (2, 1, (.c (.int .i64 (.lit 3)))), (3, 1, (.c (.int .u32 (.lit 99)))), (4, 1, (.c (.int .u32 (.lit 0)))), (5, 1, (.c (.int .u32 (.lit 0)))), (6, 1, (.c (.int .i64 (.lit 3))))])), none⟩, ⟨(some 6), (.p (.build [(.int .i64 (.lit 0)), (.str ⟨#[]⟩), (.int .i64 (.lit 0)), (.int .u32 (.lit 0)), (.int .u32 (.lit 0)), (.int .u32 (.lit 0)), (.int .i64 (.lit 0))] [(0, 1, (.c (.int .i64 (.lit 6)))), (1, 1, (.c (.str ⟨#[98, 110, 101]⟩))), (2, 1, (.c (.int .i64 (.lit 3)))), (3, 1, (.c (.int .u32 (.lit 99)))), (4, 1, (.c (.int .u32 (.lit 1)))), (5, 1, (.c (.int .u32 (.lit 0)))), (6, 1, (.c (.int .i64 (.lit 3))))])), none⟩, ⟨(some 7), (.p (.build [(.int .i64 (.lit 0)), (.str ⟨#[]⟩), (.int .i64 (.lit 0)), (.int .u32 (.lit 0)), (.int .u32 (.lit 0)), (.int .u32 (.lit 0)), (.int .i64 (.lit 0))] [(0, 1, (.c (.int .i64 (.lit 7)))), (1, 1, (.c (.str ⟨#[98, 108, 116]⟩))), (2, 1, (.c (.int .i64 (.lit 3)))), (3, 1, (.c (.int .u32 (.lit 99)))), (4, 1, (.c (.int .u32 (.lit 4)))), (5, 1, (.c (.int .u32 (.lit 0)))), (6, 1, (.c (.int .i64 (.lit 3))))])), none⟩, ⟨(some 8), (.p (.build [(.int .i64 (.lit 0)), (.str ⟨#[]⟩), (.int .i64 (.lit 0)), (.int .u32 (.lit 0)), (.int .u32 (.lit 0)), (.int .u32 (.lit 0)), (.int .i64 (.lit 0))] [(0, 1, (.c (.int .i64 (.lit 8)))), (1, 1, (.c (.str ⟨#[98, 103, 101]⟩))), (2, 1, (.c (.int .i64 (.lit 3)))), (3, 1, (.c (.int .u32 (.lit 99)))), (4, 1, (.c (.int .u32 (.lit 5)))), (5, 1, (.c (.int .u32 (.lit 0)))), (6, 1, (.c (.int .i64 (.lit 3))))])), none⟩, ⟨(some 9), (.p (.build [(.int .i64 (.lit 0)), (.str ⟨#[]⟩), (.int .i64 (.lit 0)), (.int .u32 (.lit 0)), (.int .u32 (.lit 0)), (.int .u32 (.lit 0)), (.int .i64 (.lit 0))] [(0, 1, (.c (.int .i64 (.lit 9)))), (1, 1, (.c (.str ⟨#[98, 108, 116, 117]⟩))), (2, 1, (.c (.int .i64 (.lit 3)))), (3, 1, (.c (.int .u32 (.lit 99)))), (4, 1, (.c (.int .u32 (.lit 6)))), (5, 1, (.c (.int .u32 (.lit 0)))), (6, 1, (.c (.int .i64 (.lit 3))))])), none⟩, ⟨(some 10), (.p (.build [(.int .i64 (.lit 0)), (.str ⟨#[]⟩), (.int .i64 (.lit 0)), (.int .u32 (.lit 0)), (.int .u32 (.lit 0)), (.int .u32 (.lit 0)), (.int .i64 (.lit 0))] [(0, 1, (.c (.int .i64 (.lit 10)))), (1, 1, (.c (.str ⟨#[98, 103, 101, 117]⟩))), (2, 1, (.c (.int .i64 (.lit 3)))), (3, 1, (.c (.int .u32 (.lit 99)))), (4, 1, (.c (.int .u32 (.lit 7)))), (5, 1, (.c (.int .u32 (.lit 0)))), (6, 1, (.c (.int .i64 (.lit 3))))])), none⟩, ⟨(some 11), (.p (.build [(.int .i64 (.lit 0)), (.str ⟨#[]⟩), (.int .i64 (.lit 0)), (.int .u32 (.lit 0)), (.int .u32 (.lit 0)), (.int .u32 (.lit 0)), (.int .i64 (.lit 0))] [(0, 1, (.c (.int .i64 (.lit 11)))), (1, 1, (.c (.str ⟨#[108, 98]⟩))), (2, 1, (.c (.int .i64 (.lit 2)))), (3, 1, (.c (.int .u32 (.lit 3)))), (4, 1, (.c (.int .u32 (.lit 0)))), (5, 1, (.c (.int .u32 (.lit 0)))), (6, 1, (.c (.int .i64 (.lit 4))))])), none⟩, ⟨(some 12), (.p (.build [(.int .i64 (.lit 0)), (.str ⟨#[]⟩), (.int .i64 (.lit 0)), (.int .u32 (.lit 0)), (.int .u32 (.lit 0)), (.int .u32 (.lit 0)), (.int .i64 (.lit 0))] [(0, 1, (.c (.int .i64 (.lit 12)))), (1, 1, (.c (.str ⟨#[108, 104]⟩))), (2, 1, (.c (.int .i64 (.lit 2)))), (3, 1, (.c (.int .u32 (.lit 3)))), (4, 1, (.c (.int .u32 (.lit 1)))), (5, 1, (.c (.int .u32 (.lit 0)))), (6, 1, (.c (.int .i64 (.lit 4))))])), none⟩, ⟨(some 13), (.p (.build [(.int .i64 (.lit 0)), (.str ⟨#[]⟩), (.int .i64 (.lit 0)), (.int .u32 (.lit 0)), (.int .u32 (.lit 0)), (.int .u32 (.lit 0)), (.int .i64 (.lit 0))] [(0, 1, (.c (.int .i64 (.lit 13)))), (1, 1, (.c (.str ⟨#[108, 119]⟩))), (2, 1, (.c (.int .i64 (.lit 2)))), (3, 1, (.c (.int .u32 (.lit 3)))), (4, 1, (.c (.int .u32 (.lit 2)))), (5, 1, (.c (.int .u32 (.lit 0)))), (6, 1, (.c (.int .i64 (.lit 4))))])), none⟩, ⟨(some 14), (.p (.build [(.int .i64 (.lit 0)), (.str ⟨#[]⟩), (.int .i64 (.lit 0)), (.int .u32 (.lit 0)), (.int .u32 (.lit 0)), (.int .u32 (.lit 0)), (.int .i64 (.lit 0))] [(0, 1, (.c (.int .i64 (.lit 14)))), (1, 1, (.c (.str ⟨#[108, 98, 117]⟩))), (2, 1, (.c (.int .i64 (.lit 2)))), (3, 1, (.c (.int .u32 (.lit 3)))), (4, 1, (.c (.int .u32 (.lit 4)))), (5, 1, (.c (.int .u32 (.lit 0)))), (6, 1, (.c (.int .i64 (.lit 4))))])), none⟩, ⟨(some 15), (.p (.build [(.int .i64 (.lit 0)), (.str ⟨#[]⟩), (.int .i64 (.lit 0)), (.int .u32 (.lit 0)), (.int .u32 (.lit 0)), (.int .u32 (.lit 0)), (.int .i64 (.lit 0))] [(0, 1, (.c (.int .i64 (.lit 15)))), (1, 1, (.c (.str ⟨#[108, 104, 117]⟩))), (2, 1, (.c (.int .i64 (.lit 2)))), (3, 1, (.c (.int .u32 (.lit 3)))), (4, 1, (.c (.int .u32 (.lit 5)))), (5, 1, (.c (.int .u32 (.lit 0)))), (6, 1, (.c (.int .i64 (.lit 4))))])), none⟩, ⟨(some 16), (.p (.build [(.int .i64 (.lit 0)), (.str ⟨#[]⟩), (.int .i64 (.lit 0)), (.int .u32 (.lit 0)), (.int .u32 (.lit 0)), (.int .u32 (.lit 0)), (.int .i64 (.lit 0))] [(0, 1, (.c (.int .i64 (.lit 16)))), (1, 1, (.c (.str ⟨#[115, 98]⟩))), (2, 1, (.c (.int .i64 (.lit 4)))), (3, 1, (.c (.int .u32 (.lit 35)))), (4, 1, (.c (.int .u32 (.lit 0)))), (5, 1, (.c (.int .u32 (.lit 0)))), (6, 1, (.c (.int .i64 (.lit 5))))])), none⟩, ⟨(some 17), (.p (.build [(.int .i64 (.lit 0)), (.str ⟨#[]⟩), (.int .i64 (.lit 0)), (.int .u32 (.lit 0)), (.int .u32 (.lit 0)), (.int .u32 (.lit 0)), (.int .i64 (.lit 0))] [(0, 1, (.c (.int .i64 (.lit 17)))), (1, 1, (.c (.str ⟨#[115, 104]⟩))), (2, 1, (.c (.int .i64 (.lit 4)))), (3, 1, (.c (.int .u32 (.lit 35)))), (4, 1, (.c (.int .u32 (.lit 1)))), (5, 1, (.c (.int .u32 (.lit 0)))), (6, 1, (.c (.int .i64 (.lit 5))))])), none⟩, ⟨(some 18), (.p (.build [(.int .i64 (.lit 0)), (.str ⟨#[]⟩), (.int .i64 (.lit 0)), (.int .u32 (.lit 0)), (.int .u32 (.lit 0)), (.int .u32 (.lit 0)), (.int .i64 (.lit 0))] [(0, 1, (.c (.int .i64 (.lit 18)))), (1, 1, (.c (.str ⟨#[115, 119]⟩))), (2, 1, (.c (.int .i64 (.lit 4)))), (3, 1, (.c (.int .u32 (.lit 35)))), (4, 1, (.c (.int .u32 (.lit 2)))), (5, 1, (.c (.int .u32 (.lit 0)))), (6, 1, (.c (.int .i64 (.lit 5))))])), none⟩, ⟨(some 19), (.p (.build [(.int .i64 (.lit 0)), (.str ⟨#[]⟩), (.int .i64 (.lit 0)), (.int .u32 (.lit 0)), (.int .u32 (.lit 0)), (.int .u32 (.lit 0)), (.int .i64 (.lit 0))] [(0, 1, (.c (.int .i64 (.lit 19)))), (1, 1, (.c (.str ⟨#[97, 100, 100, 105]⟩))), (2, 1, (.c (.int .i64 (.lit 2)))), (3, 1, (.c (.int .u32 (.lit 19)))), (4, 1, (.c (.int .u32 (.lit 0)))), (5, 1, (.c (.int .u32 (.lit 0)))), (6, 1, (.c (.int .i64 (.lit 1))))])), none⟩, ⟨(some 20), (.p (.build [(.int .i64 (.lit 0)), (.str ⟨#[]⟩), (.int .i64 (.lit 0)), (.int .u32 (.lit 0)), (.int .u32 (.lit 0)), (.int .u32 (.lit 0)), (.int .i64 (.lit 0))] [(0, 1, (.c (.int .i64 (.lit 20)))), (1, 1, (.c (.str ⟨#[115, 108, 116, 105]⟩))), (2, 1, (.c (.int .i64 (.lit 2)))), (3, 1, (.c (.int .u32 (.lit 19)))), (4, 1, (.c (.int .u32 (.lit 2)))), (5, 1, (.c (.int .u32 (.lit 0)))), (6, 1, (.c (.int .i64 (.lit 1))))])), none⟩, ⟨(some 21), (.p (.build [(.int .i64 (.lit 0)), (.str ⟨#[]⟩), (.int .i64 (.lit 0)), (.int .u32 (.lit 0)), (.int .u32 (.lit 0)), (.int .u32 (.lit 0)), (.int .i64 (.lit 0))] [(0, 1, (.c (.int .i64 (.lit 21)))), (1, 1, (.c (.str ⟨#[115, 108, 116, 105, 117]⟩))), (2, 1, (.c (.int .i64 (.lit 2)))), (3, 1, (.c (.int .u32 (.lit 19)))), (4, 1, (.c (.int .u32 (.lit 3)))), (5, 1, (.c (.int .u32 (.lit 0)))), (6, 1, (.c (.int .i64 (.lit 1))))])), none⟩, ⟨(some 22), (.p (.build [(.int .i64 (.lit 0)), (.str ⟨#[]⟩), (.int .i64 (.lit 0)), (.int .u32 (.lit 0)), (.int .u32 (.lit 0)), (.int .u32 (.lit 0)), (.int .i64 (.lit 0))] [(0, 1, (.c (.int .i64 (.lit 22)))), (1, 1, (.c (.str ⟨#[120, 111, 114, 105]⟩))), (2, 1, (.c (.int .i64 (.lit 2)))), (3, 1, (.c (.int .u32 (.lit 19)))), (4, 1, (.c (.int .u32 (.lit 4)))), (5, 1, (.c (.int .u32 (.lit 0)))), (6, 1, (.c (.int .i64 (.lit 1))))])), none⟩, ⟨(some 23), (.p (.build [(.int .i64 (.lit 0)), (.str ⟨#[]⟩), (.int .i64 (.lit 0)), (.int .u32 (.lit 0)), (.int .u32 (.lit 0)), (.int .u32 (.lit 0)), (.int .i64 (.lit 0))] [(0, 1, (.c (.int .i64 (.lit 23)))), (1, 1, (.c (.str ⟨#[111, 114, 105]⟩))), (2, 1, (.c (.int .i64 (.lit 2)))), (3, 1, (.c (.int .u32 (.lit 19)))), (4, 1, (.c (.int .u32 (.lit 6)))), (5, 1, (.c (.int .u32 (.lit 0)))), (6, 1, (.c (.int .i64 (.lit 1))))])), none⟩, ⟨(some 24), (.p (.build [(.int .i64 (.lit 0)), (.str ⟨#[]⟩), (.int .i64 (.lit 0)), (.int .u32 (.lit 0)), (.int .u32 (.lit 0)), (.int .u32 (.lit 0)), (.int .i64 (.lit 0))] [(0, 1, (.c (.int .i64 (.lit 24)))), (1, 1, (.c (.str ⟨#[97, 110, 100, 105]⟩))), (2, 1, (.c (.int .i64 (.lit 2)))), (3, 1, (.c (.int .u32 (.lit 19)))), (4, 1, (.c (.int .u32 (.lit 7)))), (5, 1, (.c (.int .u32 (.lit 0)))), (6, 1, (.c (.int .i64 (.lit 1))))])), none⟩, ⟨(some 25), (.p (.build [(.int .i64 (.lit 0)), (.str ⟨#[]⟩), (.int .i64 (.lit 0)), (.int .u32 (.lit 0)), (.int .u32 (.lit 0)), (.int .u32 (.lit 0)), (.int .i64 (.lit 0))] [(0, 1, (.c (.int .i64 (.lit 25)))), (1, 1, (.c (.str ⟨#[115, 108, 108, 105]⟩))), (2, 1, (.c (.int .i64 (.lit 5)))), (3, 1, (.c (.int .u32 (.lit 19)))), (4, 1, (.c (.int .u32 (.lit 1)))), (5, 1, (.c (.int .u32 (.lit 0)))), (6, 1, (.c (.int .i64 (.lit 1))))])), none⟩, ⟨(some 26), (.p (.build [(.int .i64 (.lit 0)), (.str ⟨#[]⟩), (.int .i64 (.lit 0)), (.int .u32 (.lit 0)), (.int .u32 (.lit 0)), (.int .u32 (.lit 0)), (.int .i64 (.lit 0))] [(0, 1, (.c (.int .i64 (.lit 26)))), (1, 1, (.c (.str ⟨#[115, 114, 108, 105]⟩))), (2, 1, (.c (.int .i64 (.lit 5)))), (3, 1, (.c (.int .u32 (.lit 19)))), (4, 1, (.c (.int .u32 (.lit 5)))), (5, 1, (.c (.int .u32 (.lit 0)))), (6, 1, (.c (.int .i64 (.lit 1))))])), none⟩, ⟨(some 27), (.p (.build [(.int .i64 (.lit 0)), (.str ⟨#[]⟩), (.int .i64 (.lit 0)), (.int .u32 (.lit 0)), (.int .u32 (.lit 0)), (.int .u32 (.lit 0)), (.int .i64 (.lit 0))] [(0, 1, (.c (.int .i64 (.lit 27)))), (1, 1, (.c (.str ⟨#[115, 114, 97, 105]⟩))), (2, 1, (.c (.int .i64 (.lit 5)))), (3, 1, (.c (.int .u32 (.lit 19)))), (4, 1, (.c (.int .u32 (.lit 5)))), (5, 1, (.c (.int .u32 (.lit 32)))), (6, 1, (.c (.int .i64 (.lit 1))))])), none⟩, ⟨(some 28), (.p (.build [(.int .i64 (.lit 0)), (.str ⟨#[]⟩), (.int .i64 (.lit 0)), (.int .u32 (.lit 0)), (.int .u32 (.lit 0)), (.int .u32 (.lit 0)), (.int .i64 (.lit 0))] [(0, 1, (.c (.int .i64 (.lit 28)))), (1, 1, (.c (.str ⟨#[97, 100, 100]⟩))), (2, 1, (.c (.int .i64 (.lit 6)))), (3, 1, (.c (.int .u32 (.lit 51)))), (4, 1, (.c (.int .u32 (.lit 0)))), (5, 1, (.c (.int .u32 (.lit 0)))), (6, 1, (.c (.int .i64 (.lit 1))))])), none⟩, ⟨(some 29), (.p (.build [(.int .i64 (.lit 0)), (.str ⟨#[]⟩), (.int .i64 (.lit 0)), (.int .u32 (.lit 0)), (.int .u32 (.lit 0)), (.int .u32 (.lit 0)), (.int .i64 (.lit 0))] [(0, 1, (.c (.int .i64 (.lit 29)))), (1, 1, (.c (.str ⟨#[115, 117, 98]⟩))), (2, 1, (.c (.int .i64 (.lit 6)))), (3, 1, (.c (.int .u32 (.lit 51)))), (4, 1, (.c (.int .u32 (.lit 0)))), (5, 1, (.c (.int .u32 (.lit 32)))), (6, 1, (.c (.int .i64 (.lit 1))))])), none⟩, ⟨(some 30), (.p (.build [(.int .i64 (.lit 0)), (.str ⟨#[]⟩), (.int .i64 (.lit 0)), (.int .u32 (.lit 0)), (.int .u32 (.lit 0)), (.int .u32 (.lit 0)), (.int .i64 (.lit 0))] [(0, 1, (.c (.int .i64 (.lit 30)))), (1, 1, (.c (.str ⟨#[115, 108, 108]⟩))), (2, 1, (.c (.int .i64 (.lit 6)))), (3, 1, (.c (.int .u32 (.lit 51)))), (4, 1, (.c (.int .u32 (.lit 1)))), (5, 1, (.c (.int .u32 (.lit 0)))), (6, 1, (.c (.int .i64 (.lit 1))))])), none⟩, ⟨(some 31), (.p (.build [(.int .i64 (.lit 0)), (.str ⟨#[]⟩), (.int .i64 (.lit 0)), (.int .u32 (.lit 0)), (.int .u32 (.lit 0)), (.int .u32 (.lit 0)), (.int .i64 (.lit 0))] [(0, 1, (.c (.int .i64 (.lit 31)))), (1, 1, (.c (.str ⟨#[115, 108, 116]⟩))), (2, 1, (.c (.int .i64 (.lit 6)))), (3, 1, (.c (.int .u32 (.lit 51)))), (4, 1, (.c (.int .u32 (.lit 2)))), (5, 1, (.c (.int .u32 (.lit 0)))), (6, 1, (.c (.int .i64 (.lit 1))))])), none⟩, ⟨(some 32), (.p (.build [(.int .i64 (.lit 0)), (.str ⟨#[]⟩), (.int .i64 (.lit 0)), (.int .u32 (.lit 0)), (.int .u32 (.lit 0)), (.int .u32 (.lit 0)), (.int .i64 (.lit 0))] [(0, 1, (.c (.int .i64 (.lit 32)))), (1, 1, (.c (.str ⟨#[115, 108, 116, 117]⟩))), (2, 1, (.c (.int .i64 (.lit 6)))), (3, 1, (.c (.int .u32 (.lit 51)))), (4, 1, (.c (.int .u32 (.lit 3)))), (5, 1, (.c (.int .u32 (.lit 0)))), (6, 1, (.c (.int .i64 (.lit 1))))])), none⟩, ⟨(some 33), (.p (.build [(.int .i64 (.lit 0)), (.str ⟨#[]⟩), (.int .i64 (.lit 0)), (.int .u32 (.lit 0)), (.int .u32 (.lit 0)), (.int .u32 (.lit 0)), (.int .i64 (.lit 0))] [(0, 1, (.c (.int .i64 (.lit 33)))), (1, 1, (.c (.str ⟨#[120, 111, 114]⟩))), (2, 1, (.c (.int .i64 (.lit 6)))), (3, 1, (.c (.int .u32 (.lit 51)))), (4, 1, (.c (.int .u32 (.lit 4)))), (5, 1, (.c (.int .u32 (.lit 0)))), (6, 1, (.c (.int .i64 (.lit 1))))])), none⟩, ⟨(some 34), (.p (.build [(.int .i64 (.lit 0)), (.str ⟨#[]⟩), (.int .i64 (.lit 0)), (.int .u32 (.lit 0)), (.int .u32 (.lit 0)), (.int .u32 (.lit 0)), (.int .i64 (.lit 0))] [(0, 1, (.c (.int .i64 (.lit 34)))), (1, 1, (.c (.str ⟨#[115, 114, 108]⟩))), (2, 1, (.c (.int .i64 (.lit 6)))), (3, 1, (.c (.int .u32 (.lit 51)))), (4, 1, (.c (.int .u32 (.lit 5)))), (5, 1, (.c (.int .u32 (.lit 0)))), (6, 1, (.c (.int .i64 (.lit 1))))])), none⟩, ⟨(some 35), (.p (.build [(.int .i64 (.lit 0)), (.str ⟨#[]⟩), (.int .i64 (.lit 0)), (.int .u32 (.lit 0)), (.int .u32 (.lit 0)), (.int .u32 (.lit 0)), (.int .i64 (.lit 0))] [(0, 1, (.c (.int .i64 (.lit 35)))), (1, 1, (.c (.str ⟨#[115, 114, 97]⟩))), (2, 1, (.c (.int .i64 (.lit 6)))), (3, 1, (.c (.int .u32 (.lit 51)))), (4, 1, (.c (.int .u32 (.lit 5)))), (5, 1, (.c (.int .u32 (.lit 32)))), (6, 1, (.c (.int .i64 (.lit 1))))])), none⟩, ⟨(some 36), (.p (.build [(.int .i64 (.lit 0)), (.str ⟨#[]⟩), (.int .i64 (.lit 0)), (.int .u32 (.lit 0)), (.int .u32 (.lit 0)), (.int .u32 (.lit 0)), (.int .i64 (.lit 0))] [(0, 1, (.c (.int .i64 (.lit 36)))), (1, 1, (.c (.str ⟨#[111, 114]⟩))), (2, 1, (.c (.int .i64 (.lit 6)))), (3, 1, (.c (.int .u32 (.lit 51)))), (4, 1, (.c (.int .u32 (.lit 6)))), (5, 1, (.c (.int .u32 (.lit 0)))), (6, 1, (.c (.int .i64 (.lit 1))))])), none⟩, ⟨(some 37), (.p (.build [(.int .i64 (.lit 0)), (.str ⟨#[]⟩), (.int .i64 (.lit 0)), (.int .u32 (.lit 0)), (.int .u32 (.lit 0)), (.int .u32 (.lit 0)), (.int .i64 (.lit 0))] [(0, 1, (.c (.int .i64 (.lit 37)))), (1, 1, (.c (.str ⟨#[97, 110, 100]⟩))), (2, 1, (.c (.int .i64 (.lit 6)))), (3, 1, (.c (.int .u32 (.lit 51)))), (4, 1, (.c (.int .u32 (.lit 7)))), (5, 1, (.c (.int .u32 (.lit 0)))), (6, 1, (.c (.int .i64 (.lit 1))))])), none⟩, ⟨(some 38), (.p (.build [(.int .i64 (.lit 0)), (.str ⟨#[]⟩), (.int .i64 (.lit 0)), (.int .u32 (.lit 0)), (.int .u32 (.lit 0)), (.int .u32 (.lit 0)), (.int .i64 (.lit 0))] [(0, 1, (.c (.int .i64 (.lit 38)))), (1, 1, (.c (.str ⟨#[102, 101, 110, 99, 101]⟩))), (2, 1, (.c (.int .i64 (.lit 7)))), (3, 1, (.c (.int .u32 (.lit 15)))), (4, 1, (.c (.int .u32 (.lit 0)))), (5, 1, (.c (.int .u32 (.lit 0)))), (6, 1, (.c (.int .i64 (.lit 7))))])), none⟩, ⟨(some 39), (.p (.build [(.int .i64 (.lit 0)), (.str ⟨#[]⟩), (.int .i64 (.lit 0)), (.int .u32 (.lit 0)), (.int .u32 (.lit 0)), (.int .u32 (.lit 0)), (.int .i64 (.lit 0))] [(0, 1, (.c (.int .i64 (.lit 39)))), (1, 1, (.c (.str ⟨#[102, 101, 110, 99, 101, 46, 105]⟩))), (2, 1, (.c (.int .i64 (.lit 8)))), (3, 1, (.c (.int .u32 (.lit 4111)))), (4, 1, (.c (.int .u32 (.lit 0)))), (5, 1, (.c (.int .u32 (.lit 0)))), (6, 1, (.c (.int .i64 (.lit 7))))])), none⟩, ⟨(some 40), (.p (.build [(.int .i64 (.lit 0)), (.str ⟨#[]⟩), (.int .i64 (.lit 0)), (.int .u32 (.lit 0)), (.int .u32 (.lit 0)), (.int .u32 (.lit 0)), (.int .i64 (.lit 0))] [(0, 1, (.c (.int .i64 (.lit 40)))), (1, 1, (.c (.str ⟨#[101, 99, 97, 108, 108]⟩))), (2, 1, (.c (.int .i64 (.lit 8)))), (3, 1, (.c (.int .u32 (.lit 115)))), (4, 1, (.c (.int .u32 (.lit 0)))), (5, 1, (.c (.int .u32 (.lit 0)))), (6, 1, (.c (.int .i64 (.lit 7))))])), none⟩, ⟨(some 41), (.p (.build [(.int .i64 (.lit 0)), (.str ⟨#[]⟩), (.int .i64 (.lit 0)), (.int .u32 (.lit 0)), (.int .u32 (.lit 0)), (.int .u32 (.lit 0)), (.int .i64 (.lit 0))] [(0, 1, (.c (.int .i64 (.lit 41)))), (1, 1, (.c (.str ⟨#[101, 98, 114, 101, 97, 107]⟩))), (2, 1, (.c (.int .i64 (.lit 8)))), (3, 1, (.c (.int .u32 (.lit 1048691)))), (4, 1, (.c (.int .u32 (.lit 0)))), (5, 1, (.c (.int .u32 (.lit 0)))), (6, 1, (.c (.int .i64 (.lit 7))))])), none⟩, ⟨(some 42), (.p (.build [(.int .i64 (.lit 0)), (.str ⟨#[]⟩), (.int .i64 (.lit 0)), (.int .u32 (.lit 0)), (.int .u32 (.lit 0)), (.int .u32 (.lit 0)), (.int .i64 (.lit 0))] [(0, 1, (.c (.int .i64 (.lit 42)))), (1, 1, (.c (.str ⟨#[109, 114, 101, 116]⟩))), (2, 1, (.c (.int .i64 (.lit 8)))), (3, 1, (.c (.int .u32 (.lit 807403635)))), (4, 1, (.c (.int .u32 (.lit 0)))), (5, 1, (.c (.int .u32 (.lit 0)))), (6, 1, (.c (.int .i64 (.lit 7))))])), none⟩, ⟨(some 43), (.p (.build [(.int .i64 (.lit 0)), (.str ⟨#[]⟩), (.int .i64 (.lit 0)), (.int .u32 (.lit 0)), (.int .u32 (.lit 0)), (.int .u32 (.lit 0)), (.int .i64 (.lit 0))] [(0, 1, (.c (.int .i64 (.lit 43)))), (1, 1, (.c (.str ⟨#[119, 102, 105]⟩))), (2, 1, (.c (.int .i64 (.lit 8)))), (3, 1, (.c (.int .u32 (.lit 273678451)))), (4, 1, (.c (.int .u32 (.lit 0)))), (5, 1, (.c (.int .u32 (.lit 0)))), (6, 1, (.c (.int .i64 (.lit 7))))])), none⟩, ⟨(some 44), (.p (.build [(.int .i64 (.lit 0)), (.str ⟨#[]⟩), (.int .i64 (.lit 0)), (.int .u32 (.lit 0)), (.int .u32 (.lit 0)), (.int .u32 (.lit 0)), (.int .i64 (.lit 0))] [(0, 1, (.c (.int .i64 (.lit 44)))), (1, 1, (.c (.str ⟨#[115, 102, 101, 110, 99, 101, 46, 118, 109, 97]⟩))), (2, 1, (.c (.int .i64 (.lit 9)))), (3, 1, (.c (.int .u32 (.lit 115)))), (4, 1, (.c (.int .u32 (.lit 0)))), (5, 1, (.c (.int .u32 (.lit 9)))), (6, 1, (.c (.int .i64 (.lit 7))))])), none⟩, ⟨(some 45), (.p (.build [(.int .i64 (.lit 0)), (.str ⟨#[]⟩), (.int .i64 (.lit 0)), (.int .u32 (.lit 0)), (.int .u32 (.lit 0)), (.int .u32 (.lit 0)), (.int .i64 (.lit 0))] [(0, 1, (.c (.int .i64 (.lit 45)))), (1, 1, (.c (.str ⟨#[99, 115, 114, 114, 119]⟩))), (2, 1, (.c (.int .i64 (.lit 10)))), (3, 1, (.c (.int .u32 (.lit 115)))), (4, 1, (.c (.int .u32 (.lit 1)))), (5, 1, (.c (.int .u32 (.lit 0)))), (6, 1, (.c (.int .i64 (.lit 7))))])), none⟩, ⟨(some 46), (.p (.build [(.int .i64 (.lit 0)), (.str ⟨#[]⟩), (.int .i64 (.lit 0)), (.int .u32 (.lit 0)), (.int .u32 (.lit 0)), (.int .u32 (.lit 0)), (.int .i64 (.lit 0))] [(0, 1, (.c (.int .i64 (.lit 46)))), (1, 1, (.c (.str ⟨#[99, 115, 114, 114, 115]⟩))), (2, 1, (.c (.int .i64 (.lit 10)))), (3, 1, (.c (.int .u32 (.lit 115)))), (4, 1, (.c (.int .u32 (.lit 2)))), (5, 1, (.c (.int .u32 (.lit 0)))), (6, 1, (.c (.int .i64 (.lit 7))))])), none⟩, ⟨(some 47), (.p (.build [(.int .i64 (.lit 0)), (.str ⟨#[]⟩), (.int .i64 (.lit 0)), (.int .u32 (.lit 0)), (.int .u32 (.lit 0)), (.int .u32 (.lit 0)), (.int .i64 (.lit 0))] [(0, 1, (.c (.int .i64 (.lit 47)))), (1, 1, (.c (.str ⟨#[99, 115, 114, 114, 99]⟩))), (2, 1, (.c (.int .i64 (.lit 10)))), (3, 1, (.c (.int .u32 (.lit 115)))), (4, 1, (.c (.int .u32 (.lit 3)))), (5, 1, (.c (.int .u32 (.lit 0)))), (6, 1, (.c (.int .i64 (.lit 7))))])), none⟩, ⟨(some 48), (.p (.build [(.int .i64 (.lit 0)), (.str ⟨#[]⟩), (.int .i64 (.lit 0)), (.int .u32 (.lit 0)), (.int .u32 (.lit 0)), (.int .u32 (.lit 0)), (.int .i64 (.lit 0))] [(0, 1, (.c (.int .i64 (.lit 48)))), (1, 1, (.c (.str ⟨#[99, 115, 114, 114, 119, 105]⟩))), (2, 1, (.c (.int .i64 (.lit 11)))), (3, 1, (.c (.int .u32 (.lit 115)))), (4, 1, (.c (.int .u32 (.lit 5)))), (5, 1, (.c (.int .u32 (.lit 0)))), (6, 1, (.c (.int .i64 (.lit 7))))])), none⟩, ⟨(some 49), (.p (.build [(.int .i64 (.lit 0)), (.str ⟨#[]⟩), (.int .i64 (.lit 0)), (.int .u32 (.lit 0)), (.int .u32 (.lit 0)), (.int .u32 (.lit 0)), (.int .i64 (.lit 0))] [(0, 1, (.c (.int .i64 (.lit 49)))), (1, 1, (.c (.str ⟨#[99, 115, 114, 114, 115, 105]⟩))), (2, 1, (.c (.int .i64 (.lit 11)))), (3, 1, (.c (.int .u32 (.lit 115)))), (4, 1, (.c (.int .u32 (.lit 6)))), (5, 1, (.c (.int .u32 (.lit 0)))), (6, 1, (.c (.int .i64 (.lit 7))))])), none⟩, ⟨(some 50), (.p (.build [(.int .i64 (.lit 0)), (.str ⟨#[]⟩), (.int .i64 (.lit 0)), (.int .u32 (.lit 0)), (.int .u32 (.lit 0)), (.int .u32 (.lit 0)), (.int .i64 (.lit 0))] [(0, 1, (.c (.int .i64 (.lit 50)))), (1, 1, (.c (.str ⟨#[99, 115, 114, 114, 99, 105]⟩))), (2, 1, (.c (.int .i64 (.lit 11)))), (3, 1, (.c (.int .u32 (.lit 115)))), (4, 1, (.c (.int .u32 (.lit 7)))), (5, 1, (.c (.int .u32 (.lit 0)))), (6, 1, (.c (.int .i64 (.lit 7))))])), none⟩, ⟨(some 51), (.p (.build [(.int .i64 (.lit 0)), (.str ⟨#[]⟩), (.int .i64 (.lit 0)), (.int .u32 (.lit 0)), (.int .u32 (.lit 0)), (.int .u32 (.lit 0)), (.int .i64 (.lit 0))] [(0, 1, (.c (.int .i64 (.lit 51)))), (1, 1, (.c (.str ⟨#[109, 117, 108]⟩))), (2, 1, (.c (.int .i64 (.lit 6)))), (3, 1, (.c (.int .u32 (.lit 51)))), (4, 1, (.c (.int .u32 (.lit 0)))), (5, 1, (.c (.int .u32 (.lit 1)))), (6, 1, (.c (.int .i64 (.lit 1))))])), none⟩, ⟨(some 52), (.p (.build [(.int .i64 (.lit 0)), (.str ⟨#[]⟩), (.int .i64 (.lit 0)), (.int .u32 (.lit 0)), (.int .u32 (.lit 0)), (.int .u32 (.lit 0)), (.int .i64 (.lit 0))] [(0, 1, (.c (.int .i64 (.lit 52)))), (1, 1, (.c (.str ⟨#[109, 117, 108, 104]⟩))), (2, 1, (.c (.int .i64 (.lit 6)))), (3, 1, (.c (.int .u32 (.lit 51)))), (4, 1, (.c (.int .u32 (.lit 1)))), (5, 1, (.c (.int .u32 (.lit 1)))), (6, 1, (.c (.int .i64 (.lit 1))))])), none⟩, ⟨(some 53), (.p (.build [(.int .i64 (.lit 0)), (.str ⟨#[]⟩), (.int .i64 (.lit 0)), (.int .u32 (.lit 0)), (.int .u32 (.lit 0)), (.int .u32 (.lit 0)), (.int .i64 (.lit 0))] [(0, 1, (.c (.int .i64 (.lit 53)))), (1, 1, (.c (.str ⟨#[109, 117, 108, 104, 115, 117]⟩))), (2, 1, (.c (.int .i64 (.lit 6)))), (3, 1, (.c (.int .u32 (.lit 51)))), (4, 1, (.c (.int .u32 (.lit 2)))), (5, 1, (.c (.int .u32 (.lit 1)))), (6, 1, (.c (.int .i64 (.lit 1))))])), none⟩, ⟨(some 54), (.p (.build [(.int .i64 (.lit 0)), (.str ⟨#[]⟩), (.int .i64 (.lit 0)), (.int .u32 (.lit 0)), (.int .u32 (.lit 0)), (.int .u32 (.lit 0)), (.int .i64 (.lit 0))] [(0, 1, (.c (.int .i64 (.lit 54)))), (1, 1, (.c (.str ⟨#[109, 117, 108, 104, 117]⟩))), (2, 1, (.c (.int .i64 (.lit 6)))), (3, 1, (.c (.int .u32 (.lit 51)))), (4, 1, (.c (.int .u32 (.lit 3)))), (5, 1, (.c (.int .u32 (.lit 1)))), (6, 1, (.c (.int .i64 (.lit 1))))])), none⟩, ⟨(some 55), (.p (.build [(.int .i64 (.lit 0)), (.str ⟨#[]⟩), (.int .i64 (.lit 0)), (.int .u32 (.lit 0)), (.int .u32 (.lit 0)), (.int .u32 (.lit 0)), (.int .i64 (.lit 0))] [(0, 1, (.c (.int .i64 (.lit 55)))), (1, 1, (.c (.str ⟨#[100, 105, 118]⟩))), (2, 1, (.c (.int .i64 (.lit 6)))), (3, 1, (.c (.int .u32 (.lit 51)))), (4, 1, (.c (.int .u32 (.lit 4)))), (5, 1, (.c (.int .u32 (.lit 1)))), (6, 1, (.c (.int .i64 (.lit 1))))])), none⟩, ⟨(some 56), (.p (.build [(.int .i64 (.lit 0)), (.str ⟨#[]⟩), (.int .i64 (.lit 0)), (.int .u32 (.lit 0)), (.int .u32 (.lit 0)), (.int .u32 (.lit 0)), (.int .i64 (.lit 0))] [(0, 1, (.c (.int .i64 (.lit 56)))), (1, 1, (.c (.str ⟨#[100, 105, 118, 117]⟩))), (2, 1, (.c (.int .i64 (.lit 6)))), (3, 1, (.c (.int .u32 (.lit 51)))), (4, 1, (.c (.int .u32 (.lit 5)))), (5, 1, (.c (.int .u32 (.lit 1)))), (6, 1, (.c (.int .i64 (.lit 1))))])), none⟩, ⟨(some 57), (.p (.build [(.int .i64 (.lit 0)), (.str ⟨#[]⟩), (.int .i64 (.lit 0)), (.int .u32 (.lit 0)), (.int .u32 (.lit 0)), (.int .u32 (.lit 0)), (.int .i64 (.lit 0))] [(0, 1, (.c (.int .i64 (.lit 57)))), (1, 1, (.c (.str ⟨#[114, 101, 109]⟩))), (2, 1, (.c (.int .i64 (.lit 6)))), (3, 1, (.c (.int .u32 (.lit 51)))), (4, 1, (.c (.int .u32 (.lit 6)))), (5, 1, (.c (.int .u32 (.lit 1)))), (6, 1, (.c (.int .i64 (.lit 1))))])), none⟩, ⟨(some 58), (.p (.build [(.int .i64 (.lit 0)), (.str ⟨#[]⟩), (.int .i64 (.lit 0)), (.int .u32 (.lit 0)), (.int .u32 (.lit 0)), (.int .u32 (.lit 0)), (.int .i64 (.lit 0))] [(0, 1, (.c (.int .i64 (.lit 58)))), (1, 1, (.c (.str ⟨#[114, 101, 109, 117]⟩))), (2, 1, (.c (.int .i64 (.lit 6)))), (3, 1, (.c (.int .u32 (.lit 51)))), (4, 1, (.c (.int .u32 (.lit 7)))), (5, 1, (.c (.int .u32 (.lit 1)))), (6, 1, (.c (.int .i64 (.lit 1))))])), none⟩, ⟨(some 59), (.p (.build [(.int .i64 (.lit 0)), (.str ⟨#[]⟩), (.int .i64 (.lit 0)), (.int .u32 (.lit 0)), (.int .u32 (.lit 0)), (.int .u32 (.lit 0)), (.int .i64 (.lit 0))] [(0, 1, (.c (.int .i64 (.lit 59)))), (1, 1, (.c (.str ⟨#[108, 114, 46, 119]⟩))), (2, 1, (.c (.int .i64 (.lit 12)))), (3, 1, (.c (.int .u32 (.lit 47)))), (4, 1, (.c (.int .u32 (.lit 2)))), (5, 1, (.c (.int .u32 (.lit 2)))), (6, 1, (.c (.int .i64 (.lit 4))))])), none⟩, ⟨(some 60), (.p (.build [(.int .i64 (.lit 0)), (.str ⟨#[]⟩), (.int .i64 (.lit 0)), (.int .u32 (.lit 0)), (.int .u32 (.lit 0)), (.int .u32 (.lit 0)), (.int .i64 (.lit 0))] [(0, 1, (.c (.int .i64 (.lit 60)))), (1, 1, (.c (.str ⟨#[115, 99, 46, 119]⟩))), (2, 1, (.c (.int .i64 (.lit 13)))), (3, 1, (.c (.int .u32 (.lit 47)))), (4, 1, (.c (.int .u32 (.lit 2)))), (5, 1, (.c (.int .u32 (.lit 3)))), (6, 1, (.c (.int .i64 (.lit 6))))])), none⟩, ⟨(some 61), (.p (.build [(.int .i64 (.lit 0)), (.str ⟨#[]⟩), (.int .i64 (.lit 0)), (.int .u32 (.lit 0)), (.int .u32 (.lit 0)), (.int .u32 (.lit 0)), (.int .i64 (.lit 0))] [(0, 1, (.c (.int .i64 (.lit 61)))), (1, 1, (.c (.str ⟨#[97, 109, 111, 115, 119, 97, 112, 46, 119]⟩))), (2, 1, (.c (.int .i64 (.lit 13)))), (3, 1, (.c (.int .u32 (.lit 47)))), (4, 1, (.c (.int .u32 (.lit 2)))), (5, 1, (.c (.int .u32 (.lit 1)))), (6, 1, (.c (.int .i64 (.lit 6))))])), none⟩, ⟨(some 62), (.p (.build [(.int .i64 (.lit 0)), (.str ⟨#[]⟩), (.int .i64 (.lit 0)), (.int .u32 (.lit 0)), (.int .u32 (.lit 0)), (.int .u32 (.lit 0)), (.int .i64 (.lit 0))] [(0, 1, (.c (.int .i64 (.lit 62)))), (1, 1, (.c (.str ⟨#[97, 109, 111, 97, 100, 100, 46, 119]⟩))), (2, 1, (.c (.int .i64 (.lit 13)))), (3, 1, (.c (.int .u32 (.lit 47)))), (4, 1, (.c (.int .u32 (.lit 2)))), (5, 1, (.c (.int .u32 (.lit 0)))), (6, 1, (.c (.int .i64 (.lit 6))))])), none⟩, ⟨(some 63), (.p (.build [(.int .i64 (.lit 0)), (.str ⟨#[]⟩), (.int .i64 (.lit 0)), (.int .u32 (.lit 0)), (.int .u32 (.lit 0)), (.int .u32 (.lit 0)), (.int .i64 (.lit 0))] [(0, 1, (.c (.int .i64 (.lit 63)))), (1, 1, (.c (.str ⟨#[97, 109, 111, 120, 111, 114, 46, 119]⟩))), (2, 1, (.c (.int .i64 (.lit 13)))), (3, 1, (.c (.int .u32 (.lit 47)))), (4, 1, (.c (.int .u32 (.lit 2)))), (5, 1, (.c (.int .u32 (.lit 4)))), (6, 1, (.c (.int .i64 (.lit 6))))])), none⟩, ⟨(some 64), (.p (.build [(.int .i64 (.lit 0)), (.str ⟨#[]⟩), (.int .i64 (.lit 0)), (.int .u32 (.lit 0)), (.int .u32 (.lit 0)), (.int .u32 (.lit 0)), (.int .i64 (.lit 0))] [(0, 1, (.c (.int .i64 (.lit 64)))), (1, 1, (.c (.str ⟨#[97, 109, 111, 97, 110, 100, 46, 119]⟩))), (2, 1, (.c (.int .i64 (.lit 13)))), (3, 1, (.c (.int .u32 (.lit 47)))), (4, 1, (.c (.int .u32 (.lit 2)))), (5, 1, (.c (.int .u32 (.lit 12)))), (6, 1, (.c (.int .i64 (.lit 6))))])), none⟩, ⟨(some 65), (.p (.build [(.int .i64 (.lit 0)), (.str ⟨#[]⟩), (.int .i64 (.lit 0)), (.int .u32 (.lit 0)), (.int .u32 (.lit 0)), (.int .u32 (.lit 0)), (.int .i64 (.lit 0))] [(0, 1, (.c (.int .i64 (.lit 65)))), (1, 1, (.c (.str ⟨#[97, 109, 111, 111, 114, 46, 119]⟩))), (2, 1, (.c (.int .i64 (.lit 13)))), (3, 1, (.c (.int .u32 (.lit 47)))), (4, 1, (.c (.int .u32 (.lit 2)))), (5, 1, (.c (.int .u32 (.lit 8)))), (6, 1, (.c (.int .i64 (.lit 6))))])), none⟩, ⟨(some 66), (.p (.build [(.int .i64 (.lit 0)), (.str ⟨#[]⟩), (.int .i64 (.lit 0)), (.int .u32 (.lit 0)), (.int .u32 (.lit 0)), (.int .u32 (.lit 0)), (.int .i64 (.lit 0))] [(0, 1, (.c (.int .i64 (.lit 66)))), (1, 1, (.c (.str ⟨#[97, 109, 111, 109, 105, 110, 46, 119]⟩))), (2, 1, (.c (.int .i64 (.lit 13)))), (3, 1, (.c (.int .u32 (.lit 47)))), (4, 1, (.c (.int .u32 (.lit 2)))), (5, 1, (.c (.int .u32 (.lit 16)))), (6, 1, (.c (.int .i64 (.lit 6))))])), none⟩, ⟨(some 67), (.p (.build [(.int .i64 (.lit 0)), (.str ⟨#[]⟩), (.int .i64 (.lit 0)), (.int .u32 (.lit 0)), (.int .u32 (.lit 0)), (.int .u32 (.lit 0)), (.int .i64 (.lit 0))] [(0, 1, (.c (.int .i64 (.lit 67)))), (1, 1, (.c (.str ⟨#[97, 109, 111, 109, 97, 120, 46, 119]⟩))), (2, 1, (.c (.int .i64 (.lit 13)))), (3, 1, (.c (.int .u32 (.lit 47)))), (4, 1, (.c (.int .u32 (.lit 2)))), (5, 1, (.c (.int .u32 (.lit 20)))), (6, 1, (.c (.int .i64 (.lit 6))))])), none⟩, ⟨(some 68), (.p (.build [(.int .i64 (.lit 0)), (.str ⟨#[]⟩), (.int .i64 (.lit 0)), (.int .u32 (.lit 0)), (.int .u32 (.lit 0)), (.int .u32 (.lit 0)), (.int .i64 (.lit 0))] [(0, 1, (.c (.int .i64 (.lit 68)))), (1, 1, (.c (.str ⟨#[97, 109, 111, 109, 105, 110, 117, 46, 119]⟩))), (2, 1, (.c (.int .i64 (.lit 13)))), (3, 1, (.c (.int .u32 (.lit 47)))), (4, 1, (.c (.int .u32 (.lit 2)))), (5, 1, (.c (.int .u32 (.lit 24)))), (6, 1, (.c (.int .i64 (.lit 6))))])), none⟩, ⟨(some 69), (.p (.build [(.int .i64 (.lit 0)), (.str ⟨#[]⟩), (.int .i64 (.lit 0)), (.int .u32 (.lit 0)), (.int .u32 (.lit 0)), (.int .u32 (.lit 0)), (.int .i64 (.lit 0))] [(0, 1, (.c (.int .i64 (.lit 69)))), (1, 1, (.c (.str ⟨#[97, 109, 111, 109, 97, 120, 117, 46, 119]⟩))), (2, 1, (.c (.int .i64 (.lit 13)))), (3, 1, (.c (.int .u32 (.lit 47)))), (4, 1, (.c (.int .u32 (.lit 2)))), (5, 1, (.c (.int .u32 (.lit 28)))), (6, 1, (.c (.int .i64 (.lit 6))))])), none⟩, ⟨(some 70), (.mkArr 7 69 [(.int .i64 (.lit 0)), (.str ⟨#[]⟩), (.int .i64 (.lit 0)), (.int .u32 (.lit 0)), (.int .u32 (.lit 0)), (.int .u32 (.lit 0)), (.int .i64 (.lit 0))] [(0, 7, (.t 1)), (7, 7, (.t 2)), (14, 7, (.t 3)), (21, 7, (.t 4)), (28, 7, (.t 5)), (35, 7, (.t 6)), (42, 7, (.t 7)), (49, 7, (.t 8)), (56, 7, (.t 9)), (63, 7, (.t 10)), (70, 7, (.t 11)), (77, 7, (.t 12)), (84, 7, (.t 13)), (91, 7, (.t 14)), (98, 7, (.t 15)), (105, 7, (.t 16)), (112, 7, (.t 17)), (119, 7, (.t 18)), (126, 7, (.t 19)), (133, 7, (.t 20)), (140, 7, (.t 21)), (147, 7, (.t 22)), (154, 7, (.t 23)), (161, 7, (.t 24)), (168, 7, (.t 25)), (175, 7, (.t 26)), (182, 7, (.t 27)), (189, 7, (.t 28)), (196, 7, (.t 29)), (203, 7, (.t 30)), (210, 7, (.t 31)), (217, 7, (.t 32)), (224, 7, (.t 33)), (231, 7, (.t 34)), (238, 7, (.t 35)), (245, 7, (.t 36)), (252, 7, (.t 37)), (259, 7, (.t 38)), (266, 7, (.t 39)), (273, 7, (.t 40)), (280, 7, (.t 41)), (287, 7, (.t 42)), (294, 7, (.t 43)), (301, 7, (.t 44)), (308, 7, (.t 45)), (315, 7, (.t 46)), (322, 7, (.t 47)), (329, 7, (.t 48)), (336, 7, (.t 49)), (343, 7, (.t 50)), (350, 7, (.t 51)), (357, 7, (.t 52)), (364, 7, (.t 53)), (371, 7, (.t 54)), (378, 7, (.t 55)), (385, 7, (.t 56)), (392, 7, (.t 57)), (399, 7, (.t 58)), (406, 7, (.t 59)), (413, 7, (.t 60)), (420, 7, (.t 61)), (427, 7, (.t 62)), (434, 7, (.t 63)), (441, 7, (.t 64)), (448, 7, (.t 65)), (455, 7, (.t 66)), (462, 7, (.t 67)), (469, 7, (.t 68)), (476, 7, (.t 69))]), none⟩, ⟨(some 0), (.p (.mv (.t 70))), none⟩])
 .ret))⟩
/- (corral/isa.row).fits -/
def af25 : AFunc := ⟨121, [.t 4],
 (.seq (.reg [⟨(some 2), (.box 7 (.t 0)), none⟩, ⟨(some 4), (.p (.mv (.c (.bool (.lit false))))), none⟩])
 (.seq (.reg [⟨(some 6), (.p (.mv (.t 1))), none⟩, ⟨(some 7), (.call (.f 36) [(.t 6)]), none⟩, ⟨(some 5), (.newC [(.int .u32 (.lit 0)), (.int .u32 (.lit 0)), (.int .u32 (.lit 0)), (.int .u32 (.lit 0)), (.int .u32 (.lit 0)), (.int .u32 (.lit 0))]), none⟩, ⟨none, (.store 6 (.t 5) (.t 7)), none⟩])
 (.seq (.seq (.reg [⟨(some 8), (.p (.fieldAddr 2 (.t 2))), none⟩, ⟨(some 9), (.load false 1 (.t 8)), none⟩, ⟨(some 10), (.p (.bin 0 .eql (.t 9) (.c (.int .i64 (.lit 8))))), none⟩])
 (.cond (.t 10) (.seq (.reg [⟨(some 11), (.p (.mv (.t 1))), none⟩, ⟨(some 12), (.p (.fieldAddr 3 (.t 2))), none⟩, ⟨(some 13), (.load false 1 (.t 12)), none⟩, ⟨(some 14), (.p (.bin 0 .eql (.t 11) (.t 13))), none⟩, ⟨(some 4), (.p (.mv (.t 14))), none⟩])
 .ret)
 .skip))
 (.seq (.seq (.reg [⟨(some 15), (.p (.fieldAddr 0 (.t 5))), none⟩, ⟨(some 16), (.load false 1 (.t 15)), none⟩, ⟨(some 17), (.p (.fieldAddr 3 (.t 2))), none⟩, ⟨(some 18), (.load false 1 (.t 17)), none⟩, ⟨(some 19), (.p (.bin 0 .neq (.t 16) (.t 18))), none⟩])
 (.cond (.t 19) (.seq (.reg [⟨(some 4), (.p (.mv (.c (.bool (.lit false))))), none⟩])
 .ret)
 .skip))
 (.seq (.seq (.reg [⟨(some 20), (.p (.fieldAddr 2 (.t 2))), none⟩, ⟨(some 21), (.load false 1 (.t 20)), none⟩])
 (.block 0 (.seq (.seq (.reg [⟨(some 23), (.p (.bin 0 .eql (.t 21) (.c (.int .i64 (.lit 0))))), none⟩, ⟨(some 22), (.p (.mv (.t 23))), none⟩])
 (.cond (.t 22) .skip
 (.reg [⟨(some 24), (.p (.bin 0 .eql (.t 21) (.c (.int .i64 (.lit 1))))), none⟩, ⟨(some 22), (.p (.mv (.t 24))), none⟩])))
 (.cond (.t 22) (.seq (.reg [⟨(some 4), (.p (.mv (.c (.bool (.lit true))))), none⟩])
 .ret)
 (.seq (.seq (.reg [⟨(some 26), (.p (.bin 0 .eql (.t 21) (.c (.int .i64 (.lit 5))))), none⟩, ⟨(some 25), (.p (.mv (.t 26))), none⟩])
 (.cond (.t 25) .skip
 (.reg [⟨(some 27), (.p (.bin 0 .eql (.t 21) (.c (.int .i64 (.lit 6))))), none⟩, ⟨(some 25), (.p (.mv (.t 27))), none⟩])))
 (.cond (.t 25) (.seq (.reg [⟨(some 28), (.p (.fieldAddr 2 (.t 5))), none⟩, ⟨(some 29), (.load false 1 (.t 28)), none⟩, ⟨(some 30), (.p (.fieldAddr 4 (.t 2))), none⟩, ⟨(some 31), (.load false 1 (.t 30)), none⟩, ⟨(some 32), (.p (.bin 0 .eql (.t 29) (.t 31))), none⟩, ⟨(some 33), (.p (.mv (.t 32))), none⟩, ⟨(some 34), (.p (.fieldAddr 5 (.t 5))), (some (33, true))⟩, ⟨(some 35), (.load false 1 (.t 34)), (some (33, true))⟩, ⟨(some 36), (.p (.fieldAddr 5 (.t 2))), (some (33, true))⟩, ⟨(some 37), (.load false 1 (.t 36)), (some (33, true))⟩, ⟨(some 38), (.p (.bin 0 .eql (.t 35) (.t 37))), (some (33, true))⟩, ⟨(some 39), (.pick (.t 33) (.t 38) (.c (.bool (.lit false)))), none⟩, ⟨(some 4), (.p (.mv (.t 39))), none⟩])
 .ret)
 (.seq (.reg [⟨(some 41), (.p (.bin 0 .eql (.t 21) (.c (.int .i64 (.lit 7))))), none⟩, ⟨(some 40), (.p (.mv (.t 41))), none⟩])
 (.cond (.t 40) (.seq (.reg [⟨(some 42), (.p (.fieldAddr 2 (.t 5))), none⟩, ⟨(some 43), (.load false 1 (.t 42)), none⟩, ⟨(some 44), (.p (.fieldAddr 4 (.t 2))), none⟩, ⟨(some 45), (.load false 1 (.t 44)), none⟩, ⟨(some 46), (.p (.bin 0 .eql (.t 43) (.t 45))), none⟩, ⟨(some 47), (.p (.mv (.t 46))), none⟩, ⟨(some 48), (.p (.fieldAddr 1 (.t 5))), (some (47, true))⟩, ⟨(some 49), (.load false 1 (.t 48)), (some (47, true))⟩, ⟨(some 50), (.p (.bin 0 .eql (.t 49) (.c (.int .u32 (.lit 0))))), (some (47, true))⟩, ⟨(some 51), (.pick (.t 47) (.t 50) (.c (.bool (.lit false)))), none⟩, ⟨(some 52), (.p (.mv (.t 51))), none⟩, ⟨(some 53), (.p (.fieldAddr 3 (.t 5))), (some (52, true))⟩, ⟨(some 54), (.load false 1 (.t 53)), (some (52, true))⟩, ⟨(some 55), (.p (.bin 0 .eql (.t 54) (.c (.int .u32 (.lit 0))))), (some (52, true))⟩, ⟨(some 56), (.pick (.t 52) (.t 55) (.c (.bool (.lit false)))), none⟩, ⟨(some 57), (.p (.mv (.t 56))), none⟩, ⟨(some 58), (.p (.mv (.t 1))), (some (57, true))⟩, ⟨(some 59), (.call (.f 37) [(.t 58), (.c (.int .i64 (.lit 28))), (.c (.int .i64 (.lit 4)))]), (some (57, true))⟩, ⟨(some 60), (.p (.bin 0 .eql (.t 59) (.c (.int .u32 (.lit 0))))), (some (57, true))⟩, ⟨(some 61), (.pick (.t 57) (.t 60) (.c (.bool (.lit false)))), none⟩, ⟨(some 4), (.p (.mv (.t 61))), none⟩])
 .ret)
 (.seq (.reg [⟨(some 63), (.p (.bin 0 .eql (.t 21) (.c (.int .i64 (.lit 9))))), none⟩, ⟨(some 62), (.p (.mv (.t 63))), none⟩])
 (.cond (.t 62) (.seq (.reg [⟨(some 64), (.p (.fieldAddr 2 (.t 5))), none⟩, ⟨(some 65), (.load false 1 (.t 64)), none⟩, ⟨(some 66), (.p (.fieldAddr 4 (.t 2))), none⟩, ⟨(some 67), (.load false 1 (.t 66)), none⟩, ⟨(some 68), (.p (.bin 0 .eql (.t 65) (.t 67))), none⟩, ⟨(some 69), (.p (.mv (.t 68))), none⟩, ⟨(some 70), (.p (.fieldAddr 5 (.t 5))), (some (69, true))⟩, ⟨(some 71), (.load false 1 (.t 70)), (some (69, true))⟩, ⟨(some 72), (.p (.fieldAddr 5 (.t 2))), (some (69, true))⟩, ⟨(some 73), (.load false 1 (.t 72)), (some (69, true))⟩, ⟨(some 74), (.p (.bin 0 .eql (.t 71) (.t 73))), (some (69, true))⟩, ⟨(some 75), (.pick (.t 69) (.t 74) (.c (.bool (.lit false)))), none⟩, ⟨(some 76), (.p (.mv (.t 75))), none⟩, ⟨(some 77), (.p (.fieldAddr 1 (.t 5))), (some (76, true))⟩, ⟨(some 78), (.load false 1 (.t 77)), (some (76, true))⟩, ⟨(some 79), (.p (.bin 0 .eql (.t 78) (.c (.int .u32 (.lit 0))))), (some (76, true))⟩, ⟨(some 80), (.pick (.t 76) (.t 79) (.c (.bool (.lit false)))), none⟩, ⟨(some 4), (.p (.mv (.t 80))), none⟩])
 .ret)
 (.seq (.reg [⟨(some 82), (.p (.bin 0 .eql (.t 21) (.c (.int .i64 (.lit 12))))), none⟩, ⟨(some 81), (.p (.mv (.t 82))), none⟩])
 (.cond (.t 81) (.seq (.reg [⟨(some 83), (.p (.fieldAddr 2 (.t 5))), none⟩, ⟨(some 84), (.load false 1 (.t 83)), none⟩, ⟨(some 85), (.p (.fieldAddr 4 (.t 2))), none⟩, ⟨(some 86), (.load false 1 (.t 85)), none⟩, ⟨(some 87), (.p (.bin 0 .eql (.t 84) (.t 86))), none⟩, ⟨(some 88), (.p (.mv (.t 87))), none⟩, ⟨(some 89), (.p (.fieldAddr 5 (.t 5))), (some (88, true))⟩, ⟨(some 90), (.load false 1 (.t 89)), (some (88, true))⟩, ⟨(some 91), (.p (.bin 0 .shr (.t 90) (.c (.int .u64 (.lit 2))))), (some (88, true))⟩, ⟨(some 92), (.p (.fieldAddr 5 (.t 2))), (some (88, true))⟩, ⟨(some 93), (.load false 1 (.t 92)), (some (88, true))⟩, ⟨(some 94), (.p (.bin 0 .eql (.t 91) (.t 93))), (some (88, true))⟩, ⟨(some 95), (.pick (.t 88) (.t 94) (.c (.bool (.lit false)))), none⟩, ⟨(some 96), (.p (.mv (.t 95))), none⟩, ⟨(some 97), (.p (.fieldAddr 4 (.t 5))), (some (96, true))⟩, ⟨(some 98), (.load false 1 (.t 97)), (some (96, true))⟩, ⟨(some 99), (.p (.bin 0 .eql (.t 98) (.c (.int .u32 (.lit 0))))), (some (96, true))⟩, ⟨(some 100), (.pick (.t 96) (.t 99) (.c (.bool (.lit false)))), none⟩, ⟨(some 4), (.p (.mv (.t 100))), none⟩])
 .ret)
 (.seq (.reg [⟨(some 102), (.p (.bin 0 .eql (.t 21) (.c (.int .i64 (.lit 13))))), none⟩, ⟨(some 101), (.p (.mv (.t 102))), none⟩])
 (.cond (.t 101) (.seq (.reg [⟨(some 103), (.p (.fieldAddr 2 (.t 5))), none⟩, ⟨(some 104), (.load false 1 (.t 103)), none⟩, ⟨(some 105), (.p (.fieldAddr 4 (.t 2))), none⟩, ⟨(some 106), (.load false 1 (.t 105)), none⟩, ⟨(some 107), (.p (.bin 0 .eql (.t 104) (.t 106))), none⟩, ⟨(some 108), (.p (.mv (.t 107))), none⟩, ⟨(some 109), (.p (.fieldAddr 5 (.t 5))), (some (108, true))⟩, ⟨(some 110), (.load false 1 (.t 109)), (some (108, true))⟩, ⟨(some 111), (.p (.bin 0 .shr (.t 110) (.c (.int .u64 (.lit 2))))), (some (108, true))⟩, ⟨(some 112), (.p (.fieldAddr 5 (.t 2))), (some (108, true))⟩, ⟨(some 113), (.load false 1 (.t 112)), (some (108, true))⟩, ⟨(some 114), (.p (.bin 0 .eql (.t 111) (.t 113))), (some (108, true))⟩, ⟨(some 115), (.pick (.t 108) (.t 114) (.c (.bool (.lit false)))), none⟩, ⟨(some 4), (.p (.mv (.t 115))), none⟩])
 .ret)
 .skip))))))))))))))
 (.seq (.reg [⟨(some 116), (.p (.fieldAddr 2 (.t 5))), none⟩, ⟨(some 117), (.load false 1 (.t 116)), none⟩, ⟨(some 118), (.p (.fieldAddr 4 (.t 2))), none⟩, ⟨(some 119), (.load false 1 (.t 118)), none⟩, ⟨(some 120), (.p (.bin 0 .eql (.t 117) (.t 119))), none⟩, ⟨(some 4), (.p (.mv (.t 120))), none⟩])
 .ret))))))⟩
/- (corral/isa.row).decode -/
def af26 : AFunc := ⟨64, [.cell 4 true 8],
 (.seq (.reg [⟨(some 2), (.box 7 (.t 0)), none⟩, ⟨(some 4), (.newC [(.int .i64 (.lit 0)), (.int .i64 (.lit 0)), (.int .i64 (.lit 0)), (.int .i64 (.lit 0)), (.int .i64 (.lit 0)), (.int .u32 (.lit 0)), (.bool (.lit false)), (.bool (.lit false))]), none⟩])
 (.seq (.reg [⟨(some 11), (.p (.mv (.t 1))), none⟩, ⟨(some 12), (.call (.f 36) [(.t 11)]), none⟩, ⟨(some 5), (.newC [(.int .u32 (.lit 0)), (.int .u32 (.lit 0)), (.int .u32 (.lit 0)), (.int .u32 (.lit 0)), (.int .u32 (.lit 0)), (.int .u32 (.lit 0))]), none⟩, ⟨none, (.store 6 (.t 5) (.t 12)), none⟩])
 (.seq (.reg [⟨(some 13), (.p (.fieldAddr 0 (.t 2))), none⟩, ⟨(some 14), (.load false 1 (.t 13)), none⟩, ⟨(some 15), (.p (.build [(.int .i64 (.lit 0)), (.int .i64 (.lit 0)), (.int .i64 (.lit 0)), (.int .i64 (.lit 0)), (.int .i64 (.lit 0)), (.int .u32 (.lit 0)), (.bool (.lit false)), (.bool (.lit false))] [(0, 1, (.t 14))])), none⟩, ⟨(some 6), (.newC [(.int .i64 (.lit 0)), (.int .i64 (.lit 0)), (.int .i64 (.lit 0)), (.int .i64 (.lit 0)), (.int .i64 (.lit 0)), (.int .u32 (.lit 0)), (.bool (.lit false)), (.bool (.lit false))]), none⟩, ⟨none, (.store 8 (.t 6) (.t 15)), none⟩])
 (.seq (.reg [⟨(some 17), (.load true 7 (.t 2)), none⟩, ⟨(some 18), (.call (.f 21) [(.t 17)]), none⟩, ⟨(some 16), (.p (.mv (.t 18))), none⟩, ⟨(some 19), (.p (.extract 0 (.t 16))), none⟩, ⟨(some 20), (.p (.extract 1 (.t 16))), none⟩, ⟨(some 21), (.p (.extract 2 (.t 16))), none⟩, ⟨(some 22), (.p (.extract 3 (.t 16))), none⟩, ⟨(some 7), (.p (.mv (.t 19))), none⟩, ⟨(some 8), (.p (.mv (.t 20))), none⟩, ⟨(some 9), (.p (.mv (.t 21))), none⟩, ⟨(some 10), (.p (.mv (.t 22))), none⟩])
 (.seq (.seq (.reg [⟨(some 23), (.p (.mv (.t 7))), none⟩])
 (.cond (.t 23) (.reg [⟨(some 24), (.p (.fieldAddr 1 (.t 5))), none⟩, ⟨(some 25), (.load false 1 (.t 24)), none⟩, ⟨(some 26), (.p (.conv .i64 (.t 25))), none⟩, ⟨(some 27), (.p (.fieldAddr 1 (.t 6))), none⟩, ⟨none, (.store 1 (.t 27) (.t 26)), none⟩])
 .skip))
 (.seq (.seq (.reg [⟨(some 28), (.p (.mv (.t 8))), none⟩])
 (.cond (.t 28) (.reg [⟨(some 29), (.p (.fieldAddr 3 (.t 5))), none⟩, ⟨(some 30), (.load false 1 (.t 29)), none⟩, ⟨(some 31), (.p (.conv .i64 (.t 30))), none⟩, ⟨(some 32), (.p (.fieldAddr 2 (.t 6))), none⟩, ⟨none, (.store 1 (.t 32) (.t 31)), none⟩])
 .skip))
 (.seq (.seq (.reg [⟨(some 33), (.p (.mv (.t 9))), none⟩])
 (.cond (.t 33) (.reg [⟨(some 34), (.p (.fieldAddr 4 (.t 5))), none⟩, ⟨(some 35), (.load false 1 (.t 34)), none⟩, ⟨(some 36), (.p (.conv .i64 (.t 35))), none⟩, ⟨(some 37), (.p (.fieldAddr 3 (.t 6))), none⟩, ⟨none, (.store 1 (.t 37) (.t 36)), none⟩])
 .skip))
 (.seq (.seq (.reg [⟨(some 38), (.p (.mv (.t 10))), none⟩])
 (.cond (.t 38) (.reg [⟨(some 39), (.load true 7 (.t 2)), none⟩, ⟨(some 40), (.p (.mv (.t 1))), none⟩, ⟨(some 41), (.call (.f 38) [(.t 39), (.t 40)]), none⟩, ⟨(some 42), (.p (.fieldAddr 5 (.t 6))), none⟩, ⟨none, (.store 1 (.t 42) (.t 41)), none⟩])
 .skip))
 (.seq (.seq (.reg [⟨(some 43), (.p (.fieldAddr 2 (.t 2))), none⟩, ⟨(some 44), (.load false 1 (.t 43)), none⟩])
 (.block 0 (.seq (.seq (.reg [⟨(some 46), (.p (.bin 0 .eql (.t 44) (.c (.int .i64 (.lit 10))))), none⟩, ⟨(some 45), (.p (.mv (.t 46))), none⟩])
 (.cond (.t 45) .skip
 (.reg [⟨(some 47), (.p (.bin 0 .eql (.t 44) (.c (.int .i64 (.lit 11))))), none⟩, ⟨(some 45), (.p (.mv (.t 47))), none⟩])))
 (.cond (.t 45) (.reg [⟨(some 48), (.p (.mv (.t 1))), none⟩, ⟨(some 49), (.call (.f 37) [(.t 48), (.c (.int .i64 (.lit 20))), (.c (.int .i64 (.lit 12)))]), none⟩, ⟨(some 50), (.p (.conv .i64 (.t 49))), none⟩, ⟨(some 51), (.p (.fieldAddr 4 (.t 6))), none⟩, ⟨none, (.store 1 (.t 51) (.t 50)), none⟩])
 (.seq (.seq (.reg [⟨(some 53), (.p (.bin 0 .eql (.t 44) (.c (.int .i64 (.lit 12))))), none⟩, ⟨(some 52), (.p (.mv (.t 53))), none⟩])
 (.cond (.t 52) .skip
 (.reg [⟨(some 54), (.p (.bin 0 .eql (.t 44) (.c (.int .i64 (.lit 13))))), none⟩, ⟨(some 52), (.p (.mv (.t 54))), none⟩])))
 (.cond (.t 52) (.reg [⟨(some 55), (.p (.mv (.t 1))), none⟩, ⟨(some 56), (.call (.f 37) [(.t 55), (.c (.int .i64 (.lit 26))), (.c (.int .i64 (.lit 1)))]), none⟩, ⟨(some 57), (.p (.bin 0 .eql (.t 56) (.c (.int .u32 (.lit 1))))), none⟩, ⟨(some 58), (.p (.mv (.t 1))), none⟩, ⟨(some 59), (.call (.f 37) [(.t 58), (.c (.int .i64 (.lit 25))), (.c (.int .i64 (.lit 1)))]), none⟩, ⟨(some 60), (.p (.bin 0 .eql (.t 59) (.c (.int .u32 (.lit 1))))), none⟩, ⟨(some 61), (.p (.fieldAddr 6 (.t 6))), none⟩, ⟨none, (.store 1 (.t 61) (.t 57)), none⟩, ⟨(some 62), (.p (.fieldAddr 7 (.t 6))), none⟩, ⟨none, (.store 1 (.t 62) (.t 60)), none⟩])
 .skip))))))
 (.seq (.reg [⟨(some 63), (.load true 8 (.t 6)), none⟩, ⟨none, (.store 8 (.t 4) (.t 63)), none⟩])
 .ret))))))))))⟩
/- corral/corralref1.row -/
def af27 : AFunc := ⟨60, [.cell 14 true 14],
 (.seq (.reg [⟨(some 14), (.newC [(.int .i64 (.lit 0)), (.str ⟨#[]⟩), (.int .u32 (.lit 0)), (.int .u32 (.lit 0)), (.int .u32 (.lit 0)), (.bool (.lit false)), (.bool (.lit false)), (.int .u8 (.lit 0)), (.bool (.lit false)), (.bool (.lit false)), (.bool (.lit false)), (.bool (.lit false)), (.int .u32 (.lit 0)), (.bool (.lit false))]), none⟩])
 (.seq (.reg [⟨(some 17), (.p (.mv (.t 0))), none⟩, ⟨(some 18), (.p (.mv (.t 1))), none⟩, ⟨(some 19), (.p (.mv (.t 2))), none⟩, ⟨(some 20), (.p (.conv .u32 (.t 19))), none⟩, ⟨(some 21), (.p (.mv (.t 5))), none⟩, ⟨(some 22), (.p (.build [(.int .i64 (.lit 0)), (.str ⟨#[]⟩), (.int .u32 (.lit 0)), (.int .u32 (.lit 0)), (.int .u32 (.lit 0)), (.bool (.lit false)), (.bool (.lit false)), (.int .u8 (.lit 0)), (.bool (.lit false)), (.bool (.lit false)), (.bool (.lit false)), (.bool (.lit false)), (.int .u32 (.lit 0)), (.bool (.lit false))] [(0, 1, (.t 17)), (1, 1, (.t 18)), (2, 1, (.t 20)), (7, 1, (.t 21))])), none⟩, ⟨(some 15), (.newC [(.int .i64 (.lit 0)), (.str ⟨#[]⟩), (.int .u32 (.lit 0)), (.int .u32 (.lit 0)), (.int .u32 (.lit 0)), (.bool (.lit false)), (.bool (.lit false)), (.int .u8 (.lit 0)), (.bool (.lit false)), (.bool (.lit false)), (.bool (.lit false)), (.bool (.lit false)), (.int .u32 (.lit 0)), (.bool (.lit false))]), none⟩, ⟨none, (.store 14 (.t 15) (.t 22)), none⟩])
 (.seq (.seq (.reg [⟨(some 23), (.p (.mv (.t 3))), none⟩, ⟨(some 24), (.p (.bin 0 .geq (.t 23) (.c (.int .i64 (.lit 0))))), none⟩])
 (.cond (.t 24) (.seq (.reg [⟨(some 25), (.p (.mv (.t 3))), none⟩, ⟨(some 26), (.p (.conv .u32 (.t 25))), none⟩, ⟨(some 27), (.p (.fieldAddr 3 (.t 15))), none⟩, ⟨none, (.store 1 (.t 27) (.t 26)), none⟩])
 (.reg [⟨(some 28), (.p (.fieldAddr 5 (.t 15))), none⟩, ⟨none, (.store 1 (.t 28) (.c (.bool (.lit true)))), none⟩]))
 .skip))
 (.seq (.seq (.reg [⟨(some 29), (.p (.mv (.t 4))), none⟩, ⟨(some 30), (.p (.bin 0 .geq (.t 29) (.c (.int .i64 (.lit 0))))), none⟩])
 (.cond (.t 30) (.seq (.reg [⟨(some 31), (.p (.mv (.t 4))), none⟩, ⟨(some 32), (.p (.conv .u32 (.t 31))), none⟩, ⟨(some 33), (.p (.fieldAddr 4 (.t 15))), none⟩, ⟨none, (.store 1 (.t 33) (.t 32)), none⟩])
 (.reg [⟨(some 34), (.p (.fieldAddr 6 (.t 15))), none⟩, ⟨none, (.store 1 (.t 34) (.c (.bool (.lit true)))), none⟩]))
 .skip))
 (.seq (.seq (.reg [⟨(some 16), (.p (.mv (.c (.int .i64 (.lit 0))))), none⟩])
 (.block 0 (.loop (.seq (.seq (.reg [⟨(some 35), (.p (.mv (.t 16))), none⟩, ⟨(some 36), (.p (.mv (.t 6))), none⟩, ⟨(some 37), (.p (.lenStr (.t 36))), none⟩, ⟨(some 38), (.p (.bin 0 .lss (.t 35) (.t 37))), none⟩])
 (.cond (.t 38) .skip
 (.exit 0)))
 (.seq (.block 1 (.seq (.reg [⟨(some 41), (.p (.mv (.t 6))), none⟩, ⟨(some 42), (.p (.mv (.t 16))), none⟩, ⟨(some 43), (.p (.idxStr (.t 41) (.t 42))), none⟩])
 (.block 2 (.seq (.reg [⟨(some 45), (.p (.bin 0 .eql (.t 43) (.c (.int .u8 (.lit 100))))), none⟩, ⟨(some 44), (.p (.mv (.t 45))), none⟩])
 (.cond (.t 44) (.reg [⟨(some 46), (.p (.fieldAddr 8 (.t 15))), none⟩, ⟨none, (.store 1 (.t 46) (.c (.bool (.lit true)))), none⟩])
 (.seq (.reg [⟨(some 48), (.p (.bin 0 .eql (.t 43) (.c (.int .u8 (.lit 97))))), none⟩, ⟨(some 47), (.p (.mv (.t 48))), none⟩])
 (.cond (.t 47) (.reg [⟨(some 49), (.p (.fieldAddr 9 (.t 15))), none⟩, ⟨none, (.store 1 (.t 49) (.c (.bool (.lit true)))), none⟩])
 (.seq (.reg [⟨(some 51), (.p (.bin 0 .eql (.t 43) (.c (.int .u8 (.lit 98))))), none⟩, ⟨(some 50), (.p (.mv (.t 51))), none⟩])
 (.cond (.t 50) (.reg [⟨(some 52), (.p (.fieldAddr 10 (.t 15))), none⟩, ⟨none, (.store 1 (.t 52) (.c (.bool (.lit true)))), none⟩])
 (.seq (.reg [⟨(some 54), (.p (.bin 0 .eql (.t 43) (.c (.int .u8 (.lit 99))))), none⟩, ⟨(some 53), (.p (.mv (.t 54))), none⟩])
 (.cond (.t 53) (.reg [⟨(some 55), (.p (.fieldAddr 11 (.t 15))), none⟩, ⟨none, (.store 1 (.t 55) (.c (.bool (.lit true)))), none⟩])
 (.seq (.reg [⟨(some 57), (.p (.bin 0 .eql (.t 43) (.c (.int .u8 (.lit 112))))), none⟩, ⟨(some 56), (.p (.mv (.t 57))), none⟩])
 (.cond (.t 56) (.reg [⟨(some 58), (.p (.fieldAddr 13 (.t 15))), none⟩, ⟨none, (.store 1 (.t 58) (.c (.bool (.lit true)))), none⟩])
 .skip)))))))))))))
 (.reg [⟨(some 39), (.p (.mv (.t 16))), none⟩, ⟨(some 40), (.p (.bin 0 .add (.t 39) (.c (.int .i64 (.lit 1))))), none⟩, ⟨(some 16), (.p (.mv (.t 40))), none⟩]))))))
 (.seq (.reg [⟨(some 59), (.load true 14 (.t 15)), none⟩, ⟨none, (.store 14 (.t 14) (.t 59)), none⟩])
 .ret))))))⟩
/- corral/corralref1.whole -/
def af28 : AFunc := ⟨11, [.cell 6 true 14],
 (.seq (.reg [⟨(some 6), (.newC [(.int .i64 (.lit 0)), (.str ⟨#[]⟩), (.int .u32 (.lit 0)), (.int .u32 (.lit 0)), (.int .u32 (.lit 0)), (.bool (.lit false)), (.bool (.lit false)), (.int .u8 (.lit 0)), (.bool (.lit false)), (.bool (.lit false)), (.bool (.lit false)), (.bool (.lit false)), (.int .u32 (.lit 0)), (.bool (.lit false))]), none⟩])
 (.seq (.reg [⟨(some 7), (.p (.mv (.t 0))), none⟩, ⟨(some 8), (.p (.mv (.t 1))), none⟩, ⟨(some 9), (.p (.mv (.t 2))), none⟩, ⟨(some 10), (.p (.build [(.int .i64 (.lit 0)), (.str ⟨#[]⟩), (.int .u32 (.lit 0)), (.int .u32 (.lit 0)), (.int .u32 (.lit 0)), (.bool (.lit false)), (.bool (.lit false)), (.int .u8 (.lit 0)), (.bool (.lit false)), (.bool (.lit false)), (.bool (.lit false)), (.bool (.lit false)), (.int .u32 (.lit 0)), (.bool (.lit false))] [(0, 1, (.t 7)), (1, 1, (.t 8)), (12, 1, (.t 9))])), none⟩, ⟨none, (.store 14 (.t 6) (.t 10)), none⟩])
 .ret))⟩
/- corral/corralsee.Same -/
def af29 : AFunc := ⟨11, [.t 4],
 (.seq (.reg [⟨(some 3), (.box 2 (.t 1)), none⟩, ⟨(some 4), (.p (.mv (.c (.bool (.lit false))))), none⟩])
 (.seq (.reg [⟨(some 6), (.p (.mv (.t 0))), none⟩, ⟨(some 7), (.call (.f 39) [(.t 6)]), none⟩, ⟨(some 5), (.newC [(.int .i64 (.lit 0)), .nilSlice]), none⟩, ⟨none, (.store 2 (.t 5) (.t 7)), none⟩])
 (.seq (.reg [⟨(some 8), (.load true 2 (.t 5)), none⟩, ⟨(some 9), (.load true 2 (.t 3)), none⟩, ⟨(some 10), (.call (.f 40) [(.t 8), (.t 9)]), none⟩, ⟨(some 4), (.p (.mv (.t 10))), none⟩])
 .ret)))⟩
/- corral/corralref.Bare -/
def af30 : AFunc := ⟨5, [.cell 2 true 2],
 (.seq (.reg [⟨(some 2), (.newC [(.int .i64 (.lit 0)), .nilSlice]), none⟩])
 (.seq (.reg [⟨(some 3), (.p (.mv (.t 0))), none⟩, ⟨(some 4), (.p (.build [(.int .i64 (.lit 0)), .nilSlice] [(0, 1, (.t 3))])), none⟩, ⟨none, (.store 2 (.t 2) (.t 4)), none⟩])
 .ret))⟩
/- (corral/isa.row).uses$1 -/
def af31 : AFunc := ⟨8, [.t 3],
 (.seq (.reg [⟨(some 3), (.p (.mv (.c (.bool (.lit false))))), none⟩])
 (.seq (.reg [⟨(some 4), (.p (.mv (.t 0))), none⟩, ⟨(some 5), (.p (.fieldAddr 2 (.t 1))), none⟩, ⟨(some 6), (.load false 1 (.t 5)), none⟩, ⟨(some 7), (.call (.f 32) [(.t 4), (.t 6)]), none⟩, ⟨(some 3), (.p (.mv (.t 7))), none⟩])
 .ret))⟩
/- slices.Contains[[]int,int] -/
def af32 : AFunc := ⟨9, [.t 4],
 (.seq (.reg [⟨(some 4), (.p (.mv (.c (.bool (.lit false))))), none⟩])
 (.seq (.reg [⟨(some 5), (.p (.mv (.t 0))), none⟩, ⟨(some 6), (.p (.mv (.t 1))), none⟩, ⟨(some 7), (.call (.f 41) [(.t 5), (.t 6)]), none⟩, ⟨(some 8), (.p (.bin 0 .geq (.t 7) (.c (.int .i64 (.lit 0))))), none⟩, ⟨(some 4), (.p (.mv (.t 8))), none⟩])
 .ret))⟩
/- corral/enc.Lay -/
def af33 : AFunc := ⟨44, [.t 4, .t 5],
 (.seq (.reg [⟨(some 4), (.p (.mv (.c (.int .u32 (.lit 0))))), none⟩, ⟨(some 5), (.p (.mv (.c (.bool (.lit false))))), none⟩])
 (.seq (.reg [⟨(some 12), (.p (.mv (.t 0))), none⟩, ⟨(some 13), (.call (.f 42) [(.t 12)]), none⟩, ⟨(some 11), (.p (.mv (.t 13))), none⟩, ⟨(some 14), (.p (.extract 0 (.t 11))), none⟩, ⟨(some 15), (.p (.extract 1 (.t 11))), none⟩, ⟨(some 6), (.p (.mv (.t 14))), none⟩, ⟨(some 7), (.p (.mv (.t 15))), none⟩])
 (.seq (.reg [⟨(some 8), (.p (.mv (.c (.int .u32 (.lit 0))))), none⟩])
 (.seq (.seq (.reg [⟨(some 16), (.p (.mv (.t 6))), none⟩, ⟨(some 17), (.p (.lenS (.t 16))), none⟩, ⟨(some 18), (.p (.mv (.c (.int .i64 (.lit 0))))), none⟩])
 (.block 0 (.loop (.seq (.reg [⟨(some 19), (.p (.bin 0 .lss (.t 18) (.t 17))), none⟩])
 (.seq (.cond (.t 19) .skip
 (.exit 0))
 (.seq (.block 1 (.seq (.reg [⟨(some 20), (.p (.idxSl 3 (.t 16) (.t 18))), none⟩, ⟨(some 21), (.load true 3 (.t 20)), none⟩, ⟨(some 10), (.newC [(.int .i64 (.lit 0)), (.int .i64 (.lit 0)), (.int .i64 (.lit 0))]), none⟩, ⟨none, (.store 3 (.t 10) (.t 21)), none⟩])
 (.draw [(⟨(some 22), (.p (.mv (.t 8))), none⟩, []), (⟨(some 23), (.p (.mv (.t 1))), none⟩, []), (⟨(some 24), (.p (.fieldAddr 2 (.t 10))), none⟩, []), (⟨(some 25), (.load false 1 (.t 24)), none⟩, []), (⟨(some 26), (.p (.fieldAddr 1 (.t 10))), none⟩, []), (⟨(some 27), (.load false 1 (.t 26)), none⟩, []), (⟨(some 28), (.call (.f 37) [(.t 23), (.t 25), (.t 27)]), none⟩, []), (⟨(some 29), (.p (.fieldAddr 0 (.t 10))), none⟩, []), (⟨(some 30), (.load false 1 (.t 29)), none⟩, [6]), (⟨(some 31), (.p (.bin 0 .shl (.t 28) (.t 30))), none⟩, []), (⟨(some 32), (.p (.bin 0 .or (.t 22) (.t 31))), none⟩, []), (⟨(some 8), (.p (.mv (.t 32))), none⟩, [])])))
 (.reg [⟨(some 33), (.p (.bin 0 .add (.t 18) (.c (.int .i64 (.lit 1))))), none⟩, ⟨(some 18), (.p (.mv (.t 33))), none⟩])))))))
 (.seq (.seq (.reg [⟨(some 34), (.p (.mv (.t 6))), none⟩, ⟨(some 35), (.p (.nilEq 1 false (.t 34) (.c .nilSlice))), none⟩, ⟨(some 36), (.p (.mv (.t 35))), none⟩, ⟨(some 37), (.p (.mv (.t 0))), (some (36, false))⟩, ⟨(some 38), (.p (.mv (.t 8))), (some (36, false))⟩, ⟨(some 39), (.call (.f 43) [(.t 37), (.t 38)]), (some (36, false))⟩, ⟨(some 40), (.p (.mv (.t 1))), (some (36, false))⟩, ⟨(some 41), (.p (.bin 0 .neq (.t 39) (.t 40))), (some (36, false))⟩, ⟨(some 42), (.pick (.t 36) (.c (.bool (.lit true))) (.t 41)), none⟩])
 (.cond (.t 42) (.seq (.reg [⟨(some 4), (.p (.mv (.c (.int .u32 (.lit 0))))), none⟩, ⟨(some 5), (.p (.mv (.c (.bool (.lit false))))), none⟩])
 .ret)
 .skip))
 (.seq (.reg [⟨(some 43), (.p (.mv (.t 8))), none⟩, ⟨(some 4), (.p (.mv (.t 43))), none⟩, ⟨(some 5), (.p (.mv (.c (.bool (.lit true))))), none⟩])
 .ret))))))⟩
/- (corral/isa.row).format -/
def af34 : AFunc := ⟨15, [.t 2],
 (.seq (.reg [⟨(some 1), (.box 7 (.t 0)), none⟩, ⟨(some 2), (.p (.mv (.c (.int .u8 (.lit 0))))), none⟩])
 (.seq (.seq (.reg [⟨(some 3), (.p (.fieldAddr 2 (.t 1))), none⟩, ⟨(some 4), (.load false 1 (.t 3)), none⟩])
 (.block 0 (.seq (.reg [⟨(some 6), (.p (.bin 0 .eql (.t 4) (.c (.int .i64 (.lit 0))))), none⟩, ⟨(some 5), (.p (.mv (.t 6))), none⟩])
 (.cond (.t 5) (.seq (.reg [⟨(some 2), (.p (.mv (.c (.int .u8 (.lit 85))))), none⟩])
 .ret)
 (.seq (.reg [⟨(some 8), (.p (.bin 0 .eql (.t 4) (.c (.int .i64 (.lit 1))))), none⟩, ⟨(some 7), (.p (.mv (.t 8))), none⟩])
 (.cond (.t 7) (.seq (.reg [⟨(some 2), (.p (.mv (.c (.int .u8 (.lit 74))))), none⟩])
 .ret)
 (.seq (.reg [⟨(some 10), (.p (.bin 0 .eql (.t 4) (.c (.int .i64 (.lit 2))))), none⟩, ⟨(some 9), (.p (.mv (.t 10))), none⟩])
 (.cond (.t 9) (.seq (.reg [⟨(some 2), (.p (.mv (.c (.int .u8 (.lit 73))))), none⟩])
 .ret)
 (.seq (.reg [⟨(some 12), (.p (.bin 0 .eql (.t 4) (.c (.int .i64 (.lit 3))))), none⟩, ⟨(some 11), (.p (.mv (.t 12))), none⟩])
 (.cond (.t 11) (.seq (.reg [⟨(some 2), (.p (.mv (.c (.int .u8 (.lit 66))))), none⟩])
 .ret)
 (.seq (.reg [⟨(some 14), (.p (.bin 0 .eql (.t 4) (.c (.int .i64 (.lit 4))))), none⟩, ⟨(some 13), (.p (.mv (.t 14))), none⟩])
 (.cond (.t 13) (.seq (.reg [⟨(some 2), (.p (.mv (.c (.int .u8 (.lit 83))))), none⟩])
 .ret)
 .skip))))))))))))
 (.seq (.reg [⟨(some 2), (.p (.mv (.c (.int .u8 (.lit 0))))), none⟩])
 .ret)))⟩
/- corral/word.Pack -/
def af35 : AFunc := ⟨33, [.t 2],
 (.seq (.reg [⟨(some 2), (.p (.mv (.c (.int .u32 (.lit 0))))), none⟩])
 (.seq (.reg [⟨(some 3), (.p (.mv (.c (.int .u32 (.lit 0))))), none⟩])
 (.seq (.seq (.reg [⟨(some 6), (.p (.mv (.t 0))), none⟩, ⟨(some 7), (.p (.lenS (.t 6))), none⟩, ⟨(some 8), (.p (.mv (.c (.int .i64 (.lit 0))))), none⟩])
 (.block 0 (.loop (.seq (.reg [⟨(some 9), (.p (.bin 0 .lss (.t 8) (.t 7))), none⟩])
 (.seq (.cond (.t 9) .skip
 (.exit 0))
 (.seq (.block 1 (.seq (.reg [⟨(some 10), (.p (.idxSl 3 (.t 6) (.t 8))), none⟩, ⟨(some 11), (.load true 3 (.t 10)), none⟩, ⟨(some 5), (.newC [(.int .i64 (.lit 0)), (.int .i64 (.lit 0)), (.int .u32 (.lit 0))]), none⟩, ⟨none, (.store 3 (.t 5) (.t 11)), none⟩])
 (.seq (.reg [⟨(some 12), (.p (.fieldAddr 0 (.t 5))), none⟩, ⟨(some 13), (.load false 1 (.t 12)), none⟩, ⟨(some 14), (.p (.bin 0 .geq (.t 13) (.c (.int .i64 (.lit 0))))), none⟩, ⟨(some 15), (.p (.mv (.t 14))), none⟩, ⟨(some 16), (.p (.fieldAddr 0 (.t 5))), (some (15, true))⟩, ⟨(some 17), (.load false 1 (.t 16)), (some (15, true))⟩, ⟨(some 18), (.p (.bin 0 .lss (.t 17) (.c (.int .i64 (.lit 32))))), (some (15, true))⟩, ⟨(some 19), (.pick (.t 15) (.t 18) (.c (.bool (.lit false)))), none⟩])
 (.cond (.t 19) (.draw [(⟨(some 20), (.p (.mv (.t 3))), none⟩, []), (⟨(some 21), (.p (.fieldAddr 2 (.t 5))), none⟩, []), (⟨(some 22), (.load false 1 (.t 21)), none⟩, [5]), (⟨(some 23), (.p (.fieldAddr 1 (.t 5))), none⟩, []), (⟨(some 24), (.load false 1 (.t 23)), none⟩, []), (⟨(some 25), (.call (.f 44) [(.t 24)]), none⟩, []), (⟨(some 26), (.p (.bin 0 .and (.t 22) (.t 25))), none⟩, []), (⟨(some 27), (.p (.fieldAddr 0 (.t 5))), none⟩, []), (⟨(some 28), (.load false 1 (.t 27)), none⟩, [5]), (⟨(some 29), (.p (.bin 0 .shl (.t 26) (.t 28))), none⟩, []), (⟨(some 30), (.p (.bin 0 .or (.t 20) (.t 29))), none⟩, []), (⟨(some 3), (.p (.mv (.t 30))), none⟩, [])])
 .skip))))
 (.reg [⟨(some 31), (.p (.bin 0 .add (.t 8) (.c (.int .i64 (.lit 1))))), none⟩, ⟨(some 8), (.p (.mv (.t 31))), none⟩])))))))
 (.seq (.reg [⟨(some 32), (.p (.mv (.t 3))), none⟩, ⟨(some 2), (.p (.mv (.t 32))), none⟩])
 .ret))))⟩
/- corral/enc.Split -/
def af36 : AFunc := ⟨16, [.cell 2 true 6],
 (.seq (.reg [⟨(some 2), (.newC [(.int .u32 (.lit 0)), (.int .u32 (.lit 0)), (.int .u32 (.lit 0)), (.int .u32 (.lit 0)), (.int .u32 (.lit 0)), (.int .u32 (.lit 0))]), none⟩])
 (.seq (.reg [⟨(some 3), (.p (.mv (.t 0))), none⟩, ⟨(some 4), (.call (.f 37) [(.t 3), (.c (.int .i64 (.lit 0))), (.c (.int .i64 (.lit 7)))]), none⟩, ⟨(some 5), (.p (.mv (.t 0))), none⟩, ⟨(some 6), (.call (.f 37) [(.t 5), (.c (.int .i64 (.lit 7))), (.c (.int .i64 (.lit 5)))]), none⟩, ⟨(some 7), (.p (.mv (.t 0))), none⟩, ⟨(some 8), (.call (.f 37) [(.t 7), (.c (.int .i64 (.lit 12))), (.c (.int .i64 (.lit 3)))]), none⟩, ⟨(some 9), (.p (.mv (.t 0))), none⟩, ⟨(some 10), (.call (.f 37) [(.t 9), (.c (.int .i64 (.lit 15))), (.c (.int .i64 (.lit 5)))]), none⟩, ⟨(some 11), (.p (.mv (.t 0))), none⟩, ⟨(some 12), (.call (.f 37) [(.t 11), (.c (.int .i64 (.lit 20))), (.c (.int .i64 (.lit 5)))]), none⟩, ⟨(some 13), (.p (.mv (.t 0))), none⟩, ⟨(some 14), (.call (.f 37) [(.t 13), (.c (.int .i64 (.lit 25))), (.c (.int .i64 (.lit 7)))]), none⟩, ⟨(some 15), (.p (.build [(.int .u32 (.lit 0)), (.int .u32 (.lit 0)), (.int .u32 (.lit 0)), (.int .u32 (.lit 0)), (.int .u32 (.lit 0)), (.int .u32 (.lit 0))] [(0, 1, (.t 4)), (1, 1, (.t 6)), (2, 1, (.t 8)), (3, 1, (.t 10)), (4, 1, (.t 12)), (5, 1, (.t 14))])), none⟩, ⟨none, (.store 6 (.t 2) (.t 15)), none⟩])
 .ret))⟩
/- corral/word.Bits -/
def af37 : AFunc := ⟨23, [.t 6],
 (.seq (.reg [⟨(some 6), (.p (.mv (.c (.int .u32 (.lit 0))))), none⟩])
 (.seq (.seq (.reg [⟨(some 7), (.p (.mv (.t 1))), none⟩, ⟨(some 8), (.p (.bin 0 .lss (.t 7) (.c (.int .i64 (.lit 0))))), none⟩, ⟨(some 9), (.p (.mv (.t 8))), none⟩, ⟨(some 10), (.p (.mv (.t 1))), (some (9, false))⟩, ⟨(some 11), (.p (.bin 0 .geq (.t 10) (.c (.int .i64 (.lit 32))))), (some (9, false))⟩, ⟨(some 12), (.pick (.t 9) (.c (.bool (.lit true))) (.t 11)), none⟩, ⟨(some 13), (.p (.mv (.t 12))), none⟩, ⟨(some 14), (.p (.mv (.t 2))), (some (13, false))⟩, ⟨(some 15), (.p (.bin 0 .lss (.t 14) (.c (.int .i64 (.lit 1))))), (some (13, false))⟩, ⟨(some 16), (.pick (.t 13) (.c (.bool (.lit true))) (.t 15)), none⟩])
 (.cond (.t 16) (.seq (.reg [⟨(some 6), (.p (.mv (.c (.int .u32 (.lit 0))))), none⟩])
 .ret)
 .skip))
 (.seq (.draw [(⟨(some 17), (.p (.mv (.t 0))), none⟩, []), (⟨(some 18), (.p (.mv (.t 1))), none⟩, []), (⟨(some 19), (.p (.bin 0 .shr (.t 17) (.t 18))), none⟩, []), (⟨(some 20), (.p (.mv (.t 2))), none⟩, []), (⟨(some 21), (.call (.f 44) [(.t 20)]), none⟩, []), (⟨(some 22), (.p (.bin 0 .and (.t 19) (.t 21))), none⟩, []), (⟨(some 6), (.p (.mv (.t 22))), none⟩, [])])
 .ret)))⟩
/- (corral/isa.row).imm -/
def af38 : AFunc := ⟨23, [.t 4],
 (.seq (.reg [⟨(some 2), (.box 7 (.t 0)), none⟩, ⟨(some 4), (.p (.mv (.c (.int .u32 (.lit 0))))), none⟩])
 (.seq (.seq (.reg [⟨(some 5), (.p (.fieldAddr 2 (.t 2))), none⟩, ⟨(some 6), (.load false 1 (.t 5)), none⟩])
 (.block 0 (.seq (.reg [⟨(some 8), (.p (.bin 0 .eql (.t 6) (.c (.int .i64 (.lit 5))))), none⟩, ⟨(some 7), (.p (.mv (.t 8))), none⟩])
 (.cond (.t 7) (.seq (.reg [⟨(some 9), (.p (.mv (.t 1))), none⟩, ⟨(some 10), (.call (.f 37) [(.t 9), (.c (.int .i64 (.lit 20))), (.c (.int .i64 (.lit 5)))]), none⟩, ⟨(some 4), (.p (.mv (.t 10))), none⟩])
 .ret)
 (.seq (.reg [⟨(some 12), (.p (.bin 0 .eql (.t 6) (.c (.int .i64 (.lit 7))))), none⟩, ⟨(some 11), (.p (.mv (.t 12))), none⟩])
 (.cond (.t 11) (.seq (.reg [⟨(some 13), (.p (.mv (.t 1))), none⟩, ⟨(some 14), (.call (.f 37) [(.t 13), (.c (.int .i64 (.lit 20))), (.c (.int .i64 (.lit 8)))]), none⟩, ⟨(some 4), (.p (.mv (.t 14))), none⟩])
 .ret)
 (.seq (.reg [⟨(some 16), (.p (.bin 0 .eql (.t 6) (.c (.int .i64 (.lit 11))))), none⟩, ⟨(some 15), (.p (.mv (.t 16))), none⟩])
 (.cond (.t 15) (.seq (.reg [⟨(some 17), (.p (.mv (.t 1))), none⟩, ⟨(some 18), (.call (.f 37) [(.t 17), (.c (.int .i64 (.lit 15))), (.c (.int .i64 (.lit 5)))]), none⟩, ⟨(some 4), (.p (.mv (.t 18))), none⟩])
 .ret)
 .skip))))))))
 (.seq (.reg [⟨(some 19), (.load true 7 (.t 2)), none⟩, ⟨(some 20), (.call (.f 34) [(.t 19)]), none⟩, ⟨(some 21), (.p (.mv (.t 1))), none⟩, ⟨(some 22), (.call (.f 43) [(.t 20), (.t 21)]), none⟩, ⟨(some 4), (.p (.mv (.t 22))), none⟩])
 .ret)))⟩
/- corral/corralsee.Fault -/
def af39 : AFunc := ⟨8, [.cell 2 true 2],
 (.seq (.reg [⟨(some 2), (.newC [(.int .i64 (.lit 0)), .nilSlice]), none⟩])
 (.seq (.seq (.reg [⟨(some 3), (.p (.mv (.t 0))), none⟩, ⟨(some 4), (.ifEq false true [15, 17, 97, 104, 115] (.t 3) (.c .nilIface)), none⟩])
 (.cond (.t 4) (.seq (.reg [⟨(some 5), (.call (.f 45) []), none⟩, ⟨none, (.store 2 (.t 2) (.t 5)), none⟩])
 .ret)
 .skip))
 (.seq (.reg [⟨(some 6), (.p (.mv (.t 0))), none⟩, ⟨(some 7), (.call (.f 46) [(.t 6), (.c (.int .i64 (.lit 9)))]), none⟩, ⟨none, (.store 2 (.t 2) (.t 7)), none⟩])
 .ret)))⟩
/- corral/corralref.SameFault -/
def af40 : AFunc := ⟨19, [.t 4],
 (.seq (.reg [⟨(some 2), (.box 2 (.t 0)), none⟩, ⟨(some 3), (.box 2 (.t 1)), none⟩, ⟨(some 4), (.p (.mv (.c (.bool (.lit false))))), none⟩])
 (.seq (.reg [⟨(some 6), (.p (.fieldAddr 1 (.t 2))), none⟩, ⟨(some 7), (.load false 1 (.t 6)), none⟩, ⟨(some 8), (.p (.fieldAddr 1 (.t 3))), none⟩, ⟨(some 9), (.load false 1 (.t 8)), none⟩, ⟨(some 10), (.call (.f 47) [(.t 7), (.t 9)]), none⟩, ⟨(some 5), (.p (.mv (.t 10))), none⟩])
 (.seq (.reg [⟨(some 11), (.p (.fieldAddr 0 (.t 2))), none⟩, ⟨(some 12), (.load false 1 (.t 11)), none⟩, ⟨(some 13), (.p (.fieldAddr 0 (.t 3))), none⟩, ⟨(some 14), (.load false 1 (.t 13)), none⟩, ⟨(some 15), (.p (.bin 0 .eql (.t 12) (.t 14))), none⟩, ⟨(some 16), (.p (.mv (.t 15))), none⟩, ⟨(some 17), (.p (.mv (.t 5))), (some (16, true))⟩, ⟨(some 18), (.pick (.t 16) (.t 17) (.c (.bool (.lit false)))), none⟩, ⟨(some 4), (.p (.mv (.t 18))), none⟩])
 .ret)))⟩
/- slices.Index[[]int,int] -/
def af41 : AFunc := ⟨19, [.t 4],
 (.seq (.reg [⟨(some 4), (.p (.mv (.c (.int .i64 (.lit 0))))), none⟩])
 (.seq (.seq (.reg [⟨(some 6), (.p (.mv (.t 0))), none⟩, ⟨(some 7), (.p (.lenS (.t 6))), none⟩, ⟨(some 8), (.p (.mv (.c (.int .i64 (.lit 0))))), none⟩])
 (.block 0 (.loop (.seq (.reg [⟨(some 9), (.p (.bin 0 .lss (.t 8) (.t 7))), none⟩])
 (.seq (.cond (.t 9) .skip
 (.exit 0))
 (.seq (.block 1 (.seq (.reg [⟨(some 10), (.p (.mv (.t 8))), none⟩, ⟨(some 5), (.p (.mv (.t 10))), none⟩])
 (.seq (.reg [⟨(some 11), (.p (.mv (.t 1))), none⟩, ⟨(some 12), (.p (.mv (.t 0))), none⟩, ⟨(some 13), (.p (.mv (.t 5))), none⟩, ⟨(some 14), (.p (.idxSl 1 (.t 12) (.t 13))), none⟩, ⟨(some 15), (.load false 1 (.t 14)), none⟩, ⟨(some 16), (.p (.bin 0 .eql (.t 11) (.t 15))), none⟩])
 (.cond (.t 16) (.seq (.reg [⟨(some 17), (.p (.mv (.t 5))), none⟩, ⟨(some 4), (.p (.mv (.t 17))), none⟩])
 .ret)
 .skip))))
 (.reg [⟨(some 18), (.p (.bin 0 .add (.t 8) (.c (.int .i64 (.lit 1))))), none⟩, ⟨(some 8), (.p (.mv (.t 18))), none⟩])))))))
 (.seq (.reg [⟨(some 4), (.p (.mv (.c (.int .i64 (.lit (-1)))))), none⟩])
 .ret)))⟩
/- corral/enc.pieces -/
def af42 : AFunc := ⟨32, [.t 2, .t 3],
 (.seq (.reg [⟨(some 2), (.p (.mv (.c .nilSlice))), none⟩, ⟨(some 3), (.p (.mv (.c (.int .i64 (.lit 0))))), none⟩])
 (.seq (.seq (.reg [⟨(some 4), (.p (.mv (.t 0))), none⟩])
 (.block 0 (.seq (.reg [⟨(some 6), (.p (.bin 0 .eql (.t 4) (.c (.int .u8 (.lit 73))))), none⟩, ⟨(some 5), (.p (.mv (.t 6))), none⟩])
 (.cond (.t 5) (.seq (.reg [⟨(some 7), (.p (.build [(.int .i64 (.lit 0)), (.int .i64 (.lit 0)), (.int .i64 (.lit 0))] [(0, 1, (.c (.int .i64 (.lit 20)))), (1, 1, (.c (.int .i64 (.lit 12)))), (2, 1, (.c (.int .i64 (.lit 0))))])), none⟩, ⟨(some 8), (.mkArr 3 1 [(.int .i64 (.lit 0)), (.int .i64 (.lit 0)), (.int .i64 (.lit 0))] [(0, 3, (.t 7))]), none⟩, ⟨(some 2), (.p (.mv (.t 8))), none⟩, ⟨(some 3), (.p (.mv (.c (.int .i64 (.lit 12))))), none⟩])
 .ret)
 (.seq (.reg [⟨(some 10), (.p (.bin 0 .eql (.t 4) (.c (.int .u8 (.lit 83))))), none⟩, ⟨(some 9), (.p (.mv (.t 10))), none⟩])
 (.cond (.t 9) (.seq (.reg [⟨(some 11), (.p (.build [(.int .i64 (.lit 0)), (.int .i64 (.lit 0)), (.int .i64 (.lit 0))] [(0, 1, (.c (.int .i64 (.lit 25)))), (1, 1, (.c (.int .i64 (.lit 7)))), (2, 1, (.c (.int .i64 (.lit 5))))])), none⟩, ⟨(some 12), (.p (.build [(.int .i64 (.lit 0)), (.int .i64 (.lit 0)), (.int .i64 (.lit 0))] [(0, 1, (.c (.int .i64 (.lit 7)))), (1, 1, (.c (.int .i64 (.lit 5)))), (2, 1, (.c (.int .i64 (.lit 0))))])), none⟩, ⟨(some 13), (.mkArr 3 2 [(.int .i64 (.lit 0)), (.int .i64 (.lit 0)), (.int .i64 (.lit 0))] [(0, 3, (.t 11)), (3, 3, (.t 12))]), none⟩, ⟨(some 2), (.p (.mv (.t 13))), none⟩, ⟨(some 3), (.p (.mv (.c (.int .i64 (.lit 12))))), none⟩])
 .ret)
 (.seq (.reg [⟨(some 15), (.p (.bin 0 .eql (.t 4) (.c (.int .u8 (.lit 66))))), none⟩, ⟨(some 14), (.p (.mv (.t 15))), none⟩])
 (.cond (.t 14) (.seq (.reg [⟨(some 16), (.p (.build [(.int .i64 (.lit 0)), (.int .i64 (.lit 0)), (.int .i64 (.lit 0))] [(0, 1, (.c (.int .i64 (.lit 31)))), (1, 1, (.c (.int .i64 (.lit 1)))), (2, 1, (.c (.int .i64 (.lit 12))))])), none⟩, ⟨(some 17), (.p (.build [(.int .i64 (.lit 0)), (.int .i64 (.lit 0)), (.int .i64 (.lit 0))] [(0, 1, (.c (.int .i64 (.lit 7)))), (1, 1, (.c (.int .i64 (.lit 1)))), (2, 1, (.c (.int .i64 (.lit 11))))])), none⟩, ⟨(some 18), (.p (.build [(.int .i64 (.lit 0)), (.int .i64 (.lit 0)), (.int .i64 (.lit 0))] [(0, 1, (.c (.int .i64 (.lit 25)))), (1, 1, (.c (.int .i64 (.lit 6)))), (2, 1, (.c (.int .i64 (.lit 5))))])), none⟩, ⟨(some 19), (.p (.build [(.int .i64 (.lit 0)), (.int .i64 (.lit 0)), (.int .i64 (.lit 0))] [(0, 1, (.c (.int .i64 (.lit 8)))), (1, 1, (.c (.int .i64 (.lit 4)))), (2, 1, (.c (.int .i64 (.lit 1))))])), none⟩, ⟨(some 20), (.mkArr 3 4 [(.int .i64 (.lit 0)), (.int .i64 (.lit 0)), (.int .i64 (.lit 0))] [(0, 3, (.t 16)), (3, 3, (.t 17)), (6, 3, (.t 18)), (9, 3, (.t 19))]), none⟩, ⟨(some 2), (.p (.mv (.t 20))), none⟩, ⟨(some 3), (.p (.mv (.c (.int .i64 (.lit 13))))), none⟩])
 .ret)
 (.seq (.reg [⟨(some 22), (.p (.bin 0 .eql (.t 4) (.c (.int .u8 (.lit 85))))), none⟩, ⟨(some 21), (.p (.mv (.t 22))), none⟩])
 (.cond (.t 21) (.seq (.reg [⟨(some 23), (.p (.build [(.int .i64 (.lit 0)), (.int .i64 (.lit 0)), (.int .i64 (.lit 0))] [(0, 1, (.c (.int .i64 (.lit 12)))), (1, 1, (.c (.int .i64 (.lit 20)))), (2, 1, (.c (.int .i64 (.lit 12))))])), none⟩, ⟨(some 24), (.mkArr 3 1 [(.int .i64 (.lit 0)), (.int .i64 (.lit 0)), (.int .i64 (.lit 0))] [(0, 3, (.t 23))]), none⟩, ⟨(some 2), (.p (.mv (.t 24))), none⟩, ⟨(some 3), (.p (.mv (.c (.int .i64 (.lit 32))))), none⟩])
 .ret)
 (.seq (.reg [⟨(some 26), (.p (.bin 0 .eql (.t 4) (.c (.int .u8 (.lit 74))))), none⟩, ⟨(some 25), (.p (.mv (.t 26))), none⟩])
 (.cond (.t 25) (.seq (.reg [⟨(some 27), (.p (.build [(.int .i64 (.lit 0)), (.int .i64 (.lit 0)), (.int .i64 (.lit 0))] [(0, 1, (.c (.int .i64 (.lit 31)))), (1, 1, (.c (.int .i64 (.lit 1)))), (2, 1, (.c (.int .i64 (.lit 20))))])), none⟩, ⟨(some 28), (.p (.build [(.int .i64 (.lit 0)), (.int .i64 (.lit 0)), (.int .i64 (.lit 0))] [(0, 1, (.c (.int .i64 (.lit 12)))), (1, 1, (.c (.int .i64 (.lit 8)))), (2, 1, (.c (.int .i64 (.lit 12))))])), none⟩, ⟨(some 29), (.p (.build [(.int .i64 (.lit 0)), (.int .i64 (.lit 0)), (.int .i64 (.lit 0))] [(0, 1, (.c (.int .i64 (.lit 20)))), (1, 1, (.c (.int .i64 (.lit 1)))), (2, 1, (.c (.int .i64 (.lit 11))))])), none⟩, ⟨(some 30), (.p (.build [(.int .i64 (.lit 0)), (.int .i64 (.lit 0)), (.int .i64 (.lit 0))] [(0, 1, (.c (.int .i64 (.lit 21)))), (1, 1, (.c (.int .i64 (.lit 10)))), (2, 1, (.c (.int .i64 (.lit 1))))])), none⟩, ⟨(some 31), (.mkArr 3 4 [(.int .i64 (.lit 0)), (.int .i64 (.lit 0)), (.int .i64 (.lit 0))] [(0, 3, (.t 27)), (3, 3, (.t 28)), (6, 3, (.t 29)), (9, 3, (.t 30))]), none⟩, ⟨(some 2), (.p (.mv (.t 31))), none⟩, ⟨(some 3), (.p (.mv (.c (.int .i64 (.lit 21))))), none⟩])
 .ret)
 .skip))))))))))))
 (.seq (.reg [⟨(some 2), (.p (.mv (.c .nilSlice))), none⟩, ⟨(some 3), (.p (.mv (.c (.int .i64 (.lit 0))))), none⟩])
 .ret)))⟩
/- corral/enc.Imm -/
def af43 : AFunc := ⟨36, [.t 4],
 (.seq (.reg [⟨(some 4), (.p (.mv (.c (.int .u32 (.lit 0))))), none⟩])
 (.seq (.reg [⟨(some 11), (.p (.mv (.t 0))), none⟩, ⟨(some 12), (.call (.f 42) [(.t 11)]), none⟩, ⟨(some 10), (.p (.mv (.t 12))), none⟩, ⟨(some 13), (.p (.extract 0 (.t 10))), none⟩, ⟨(some 14), (.p (.extract 1 (.t 10))), none⟩, ⟨(some 5), (.p (.mv (.t 13))), none⟩, ⟨(some 6), (.p (.mv (.t 14))), none⟩])
 (.seq (.reg [⟨(some 7), (.p (.mv (.c (.int .u32 (.lit 0))))), none⟩])
 (.seq (.seq (.reg [⟨(some 15), (.p (.mv (.t 5))), none⟩, ⟨(some 16), (.p (.lenS (.t 15))), none⟩, ⟨(some 17), (.p (.mv (.c (.int .i64 (.lit 0))))), none⟩])
 (.block 0 (.loop (.seq (.reg [⟨(some 18), (.p (.bin 0 .lss (.t 17) (.t 16))), none⟩])
 (.seq (.cond (.t 18) .skip
 (.exit 0))
 (.seq (.block 1 (.seq (.reg [⟨(some 19), (.p (.idxSl 3 (.t 15) (.t 17))), none⟩, ⟨(some 20), (.load true 3 (.t 19)), none⟩, ⟨(some 9), (.newC [(.int .i64 (.lit 0)), (.int .i64 (.lit 0)), (.int .i64 (.lit 0))]), none⟩, ⟨none, (.store 3 (.t 9) (.t 20)), none⟩])
 (.draw [(⟨(some 21), (.p (.mv (.t 7))), none⟩, []), (⟨(some 22), (.p (.mv (.t 1))), none⟩, []), (⟨(some 23), (.p (.fieldAddr 0 (.t 9))), none⟩, []), (⟨(some 24), (.load false 1 (.t 23)), none⟩, []), (⟨(some 25), (.p (.fieldAddr 1 (.t 9))), none⟩, []), (⟨(some 26), (.load false 1 (.t 25)), none⟩, []), (⟨(some 27), (.call (.f 37) [(.t 22), (.t 24), (.t 26)]), none⟩, []), (⟨(some 28), (.p (.fieldAddr 2 (.t 9))), none⟩, []), (⟨(some 29), (.load false 1 (.t 28)), none⟩, [6]), (⟨(some 30), (.p (.bin 0 .shl (.t 27) (.t 29))), none⟩, []), (⟨(some 31), (.p (.bin 0 .or (.t 21) (.t 30))), none⟩, []), (⟨(some 7), (.p (.mv (.t 31))), none⟩, [])])))
 (.reg [⟨(some 32), (.p (.bin 0 .add (.t 17) (.c (.int .i64 (.lit 1))))), none⟩, ⟨(some 17), (.p (.mv (.t 32))), none⟩])))))))
 (.seq (.reg [⟨(some 33), (.p (.mv (.t 7))), none⟩, ⟨(some 34), (.p (.mv (.t 6))), none⟩, ⟨(some 35), (.call (.f 48) [(.t 33), (.t 34)]), none⟩, ⟨(some 4), (.p (.mv (.t 35))), none⟩])
 .ret)))))⟩
/- corral/word.mask -/
def af44 : AFunc := ⟨9, [.t 2],
 (.seq (.reg [⟨(some 2), (.p (.mv (.c (.int .u32 (.lit 0))))), none⟩])
 (.seq (.seq (.reg [⟨(some 3), (.p (.mv (.t 0))), none⟩, ⟨(some 4), (.p (.bin 0 .geq (.t 3) (.c (.int .i64 (.lit 32))))), none⟩])
 (.cond (.t 4) (.seq (.reg [⟨(some 2), (.p (.mv (.c (.int .u32 (.lit 4294967295))))), none⟩])
 .ret)
 .skip))
 (.seq (.reg [⟨(some 5), (.p (.mv (.t 0))), none⟩, ⟨(some 6), (.p (.mx (.t 5) (.c (.int .i64 (.lit 0))))), none⟩, ⟨(some 7), (.p (.bin 0 .shl (.c (.int .u32 (.lit 1))) (.t 6))), none⟩, ⟨(some 8), (.p (.bin 0 .sub (.t 7) (.c (.int .u32 (.lit 1))))), none⟩, ⟨(some 2), (.p (.mv (.t 8))), none⟩])
 .ret)))⟩
/- corral/corralref.None -/
def af45 : AFunc := ⟨2, [.cell 0 true 2],
 (.seq (.reg [⟨(some 0), (.newC [(.int .i64 (.lit 0)), .nilSlice]), none⟩])
 (.seq (.reg [⟨(some 1), (.p (.build [(.int .i64 (.lit 0)), .nilSlice] [])), none⟩, ⟨none, (.store 2 (.t 0) (.t 1)), none⟩])
 .ret))⟩
/- corral/corralsee.fault -/
def af46 : AFunc := ⟨42, [.cell 4 true 2],
 (.seq (.reg [⟨(some 4), (.newC [(.int .i64 (.lit 0)), .nilSlice]), none⟩])
 (.seq (.seq (.reg [⟨(some 7), (.p (.mv (.t 0))), none⟩, ⟨(some 8), (.ifEq false true [15, 17, 97, 104, 115] (.t 7) (.c .nilIface)), none⟩, ⟨(some 9), (.p (.mv (.t 8))), none⟩, ⟨(some 10), (.p (.mv (.t 1))), (some (9, false))⟩, ⟨(some 11), (.p (.bin 0 .eql (.t 10) (.c (.int .i64 (.lit 0))))), (some (9, false))⟩, ⟨(some 12), (.pick (.t 9) (.c (.bool (.lit true))) (.t 11)), none⟩])
 (.cond (.t 12) (.seq (.reg [⟨(some 13), (.call (.f 30) [(.c (.int .i64 (.lit (-1))))]), none⟩, ⟨none, (.store 2 (.t 4) (.t 13)), none⟩])
 .ret)
 .skip))
 (.seq (.seq (.reg [⟨(some 14), (.p (.mv (.t 0))), none⟩])
 (.block 0 (.seq (.reg [⟨(some 15), (.p (.tyAs 97 true .nilPtr (.t 14))), none⟩, ⟨(some 16), (.p (.extract 1 (.t 15))), none⟩, ⟨(some 17), (.p (.extract 0 (.t 15))), none⟩])
 (.cond (.t 16) (.seq (.reg [⟨(some 5), (.p (.mv (.t 17))), none⟩])
 (.seq (.seq (.reg [⟨(some 18), (.p (.mv (.t 5))), none⟩, ⟨(some 19), (.p (.nilEq 0 false (.t 18) (.c .nilPtr))), none⟩])
 (.cond (.t 19) (.seq (.reg [⟨(some 20), (.call (.f 30) [(.c (.int .i64 (.lit (-1))))]), none⟩, ⟨none, (.store 2 (.t 4) (.t 20)), none⟩])
 .ret)
 .skip))
 (.seq (.reg [⟨(some 21), (.p (.mv (.t 5))), none⟩, ⟨(some 22), (.p (.nilCheck (.t 21))), none⟩, ⟨(some 23), (.p (.fieldAddr 1 (.t 22))), none⟩, ⟨(some 24), (.load false 1 (.t 23)), none⟩, ⟨(some 25), (.p (.mv (.t 1))), none⟩, ⟨(some 26), (.p (.bin 0 .sub (.t 25) (.c (.int .i64 (.lit 1))))), none⟩, ⟨(some 27), (.call (.f 46) [(.t 24), (.t 26)]), none⟩, ⟨(some 6), (.newC [(.int .i64 (.lit 0)), .nilSlice]), none⟩, ⟨none, (.store 2 (.t 6) (.t 27)), none⟩])
 (.seq (.draw [(⟨(some 28), (.p (.fieldAddr 0 (.t 6))), none⟩, []), (⟨(some 29), (.load false 1 (.t 28)), none⟩, [9]), (⟨(some 30), (.p (.mv (.t 5))), none⟩, []), (⟨(some 31), (.p (.nilCheck (.t 30))), none⟩, []), (⟨(some 32), (.p (.fieldAddr 0 (.t 31))), none⟩, []), (⟨(some 33), (.load false 1 (.t 32)), none⟩, []), (⟨(some 34), (.mkArr 1 1 [(.int .i64 (.lit 0))] [(0, 1, (.t 33))]), none⟩, []), (⟨(some 35), (.p (.fieldAddr 1 (.t 6))), none⟩, []), (⟨(some 36), (.load false 1 (.t 35)), none⟩, []), (⟨(some 37), (.append 1 8 (.t 34) (.t 36)), none⟩, []), (⟨(some 38), (.p (.build [(.int .i64 (.lit 0)), .nilSlice] [(0, 1, (.t 29)), (1, 1, (.t 37))])), none⟩, []), (⟨none, (.store 2 (.t 4) (.t 38)), none⟩, [])])
 .ret))))
 .skip))))
 (.seq (.reg [⟨(some 39), (.p (.mv (.t 0))), none⟩, ⟨(some 40), (.call (.f 49) [(.t 39)]), none⟩, ⟨(some 41), (.call (.f 30) [(.t 40)]), none⟩, ⟨none, (.store 2 (.t 4) (.t 41)), none⟩])
 .ret))))⟩
/- corral/corralref.SameInts -/
def af47 : AFunc := ⟨29, [.t 4],
 (.seq (.reg [⟨(some 4), (.p (.mv (.c (.bool (.lit false))))), none⟩])
 (.seq (.seq (.reg [⟨(some 7), (.p (.mv (.t 0))), none⟩, ⟨(some 8), (.p (.lenS (.t 7))), none⟩, ⟨(some 9), (.p (.mv (.t 1))), none⟩, ⟨(some 10), (.p (.lenS (.t 9))), none⟩, ⟨(some 11), (.p (.bin 0 .neq (.t 8) (.t 10))), none⟩])
 (.cond (.t 11) (.seq (.reg [⟨(some 4), (.p (.mv (.c (.bool (.lit false))))), none⟩])
 .ret)
 .skip))
 (.seq (.seq (.reg [⟨(some 5), (.p (.mv (.c (.int .i64 (.lit 0))))), none⟩])
 (.block 0 (.loop (.seq (.seq (.reg [⟨(some 12), (.p (.mv (.t 5))), none⟩, ⟨(some 13), (.p (.mv (.t 0))), none⟩, ⟨(some 14), (.p (.lenS (.t 13))), none⟩, ⟨(some 15), (.p (.bin 0 .lss (.t 12) (.t 14))), none⟩])
 (.cond (.t 15) .skip
 (.exit 0)))
 (.seq (.block 1 (.seq (.draw [(⟨(some 18), (.p (.mv (.t 0))), none⟩, []), (⟨(some 19), (.p (.mv (.t 5))), none⟩, []), (⟨(some 20), (.p (.idxSl 1 (.t 18) (.t 19))), none⟩, []), (⟨(some 21), (.load false 1 (.t 20)), none⟩, []), (⟨(some 22), (.p (.mv (.t 1))), none⟩, []), (⟨(some 23), (.p (.mv (.t 5))), none⟩, []), (⟨(some 24), (.p (.idxSl 1 (.t 22) (.t 23))), none⟩, []), (⟨(some 25), (.load false 1 (.t 24)), none⟩, []), (⟨(some 26), (.p (.bin 0 .eql (.t 21) (.t 25))), none⟩, []), (⟨(some 6), (.p (.mv (.t 26))), none⟩, [])])
 (.seq (.reg [⟨(some 27), (.p (.mv (.t 6))), none⟩, ⟨(some 28), (.p (.un .not (.t 27))), none⟩])
 (.cond (.t 28) (.seq (.reg [⟨(some 4), (.p (.mv (.c (.bool (.lit false))))), none⟩])
 .ret)
 .skip))))
 (.reg [⟨(some 16), (.p (.mv (.t 5))), none⟩, ⟨(some 17), (.p (.bin 0 .add (.t 16) (.c (.int .i64 (.lit 1))))), none⟩, ⟨(some 5), (.p (.mv (.t 17))), none⟩]))))))
 (.seq (.reg [⟨(some 4), (.p (.mv (.c (.bool (.lit true))))), none⟩])
 .ret))))⟩
/- corral/word.Sign -/
def af48 : AFunc := ⟨21, [.t 4],
 (.seq (.reg [⟨(some 4), (.p (.mv (.c (.int .u32 (.lit 0))))), none⟩])
 (.seq (.block 0 (.seq (.reg [⟨(some 6), (.p (.mv (.t 1))), none⟩, ⟨(some 7), (.p (.bin 0 .lss (.t 6) (.c (.int .i64 (.lit 1))))), none⟩, ⟨(some 5), (.p (.mv (.t 7))), none⟩])
 (.cond (.t 5) (.seq (.reg [⟨(some 4), (.p (.mv (.c (.int .u32 (.lit 0))))), none⟩])
 .ret)
 (.seq (.reg [⟨(some 9), (.p (.mv (.t 1))), none⟩, ⟨(some 10), (.p (.bin 0 .geq (.t 9) (.c (.int .i64 (.lit 32))))), none⟩, ⟨(some 8), (.p (.mv (.t 10))), none⟩])
 (.cond (.t 8) (.seq (.reg [⟨(some 11), (.p (.mv (.t 0))), none⟩, ⟨(some 4), (.p (.mv (.t 11))), none⟩])
 .ret)
 .skip)))))
 (.seq (.reg [⟨(some 12), (.p (.mv (.t 0))), none⟩, ⟨(some 13), (.p (.mv (.t 1))), none⟩, ⟨(some 14), (.p (.bin 0 .sub (.c (.int .i64 (.lit 32))) (.t 13))), none⟩, ⟨(some 15), (.p (.bin 0 .shl (.t 12) (.t 14))), none⟩, ⟨(some 16), (.p (.conv .i32 (.t 15))), none⟩, ⟨(some 17), (.p (.mv (.t 1))), none⟩, ⟨(some 18), (.p (.bin 0 .sub (.c (.int .i64 (.lit 32))) (.t 17))), none⟩, ⟨(some 19), (.p (.bin 0 .shr (.t 16) (.t 18))), none⟩, ⟨(some 20), (.p (.conv .u32 (.t 19))), none⟩, ⟨(some 4), (.p (.mv (.t 20))), none⟩])
 .ret)))⟩
/- corral/corralsee.sentinel -/
def af49 : AFunc := ⟨20, [.t 2],
 (.seq (.reg [⟨(some 2), (.p (.mv (.c (.int .i64 (.lit 0))))), none⟩])
 (.seq (.reg [⟨(some 5), (.call (.f 50) []), none⟩, ⟨(some 3), (.p (.mv (.t 5))), none⟩])
 (.seq (.seq (.reg [⟨(some 4), (.p (.mv (.c (.int .i64 (.lit 0))))), none⟩])
 (.block 0 (.loop (.seq (.seq (.reg [⟨(some 6), (.p (.mv (.t 4))), none⟩, ⟨(some 7), (.p (.mv (.t 3))), none⟩, ⟨(some 8), (.p (.lenS (.t 7))), none⟩, ⟨(some 9), (.p (.bin 0 .lss (.t 6) (.t 8))), none⟩])
 (.cond (.t 9) .skip
 (.exit 0)))
 (.seq (.block 1 (.seq (.reg [⟨(some 12), (.p (.mv (.t 0))), none⟩, ⟨(some 13), (.p (.mv (.t 3))), none⟩, ⟨(some 14), (.p (.mv (.t 4))), none⟩, ⟨(some 15), (.p (.idxSl 1 (.t 13) (.t 14))), none⟩, ⟨(some 16), (.load false 1 (.t 15)), none⟩, ⟨(some 17), (.call (.f 51) [(.t 12), (.t 16)]), none⟩])
 (.cond (.t 17) (.seq (.reg [⟨(some 18), (.p (.mv (.t 4))), none⟩, ⟨(some 19), (.p (.bin 0 .add (.c (.int .i64 (.lit 101))) (.t 18))), none⟩, ⟨(some 2), (.p (.mv (.t 19))), none⟩])
 .ret)
 .skip)))
 (.reg [⟨(some 10), (.p (.mv (.t 4))), none⟩, ⟨(some 11), (.p (.bin 0 .add (.t 10) (.c (.int .i64 (.lit 1))))), none⟩, ⟨(some 4), (.p (.mv (.t 11))), none⟩]))))))
 (.seq (.reg [⟨(some 2), (.p (.mv (.c (.int .i64 (.lit (-1)))))), none⟩])
 .ret))))⟩
/- corral/corralsee.sentinels -/
def af50 : AFunc := ⟨13, [.t 0],
 (.seq (.reg [⟨(some 0), (.p (.mv (.c .nilSlice))), none⟩])
 (.seq (.reg [⟨(some 1), (.load false 1 (.g 3)), none⟩, ⟨(some 2), (.load false 1 (.g 0)), none⟩, ⟨(some 3), (.load false 1 (.g 4)), none⟩, ⟨(some 4), (.load false 1 (.g 2)), none⟩, ⟨(some 5), (.load false 1 (.g 5)), none⟩, ⟨(some 6), (.load false 1 (.g 1)), none⟩, ⟨(some 7), (.load false 1 (.g 6)), none⟩, ⟨(some 8), (.load false 1 (.g 7)), none⟩, ⟨(some 9), (.load false 1 (.g 8)), none⟩, ⟨(some 10), (.load false 1 (.g 9)), none⟩, ⟨(some 11), (.load false 1 (.g 10)), none⟩, ⟨(some 12), (.mkArr 1 11 [.nilIface] [(0, 1, (.t 1)), (1, 1, (.t 2)), (2, 1, (.t 3)), (3, 1, (.t 4)), (4, 1, (.t 5)), (5, 1, (.t 6)), (6, 1, (.t 7)), (7, 1, (.t 8)), (8, 1, (.t 9)), (9, 1, (.t 10)), (10, 1, (.t 11))]), none⟩, ⟨(some 0), (.p (.mv (.t 12))), none⟩])
 .ret))⟩
/- corral/corralsee.Alike -/
def af51 : AFunc := ⟨20, [.t 4],
 (.seq (.reg [⟨(some 4), (.p (.mv (.c (.bool (.lit false))))), none⟩])
 (.seq (.seq (.reg [⟨(some 5), (.p (.mv (.t 0))), none⟩, ⟨(some 6), (.ifEq false true [15, 17, 97, 104, 115] (.t 5) (.c .nilIface)), none⟩, ⟨(some 7), (.p (.mv (.t 6))), none⟩, ⟨(some 8), (.p (.mv (.t 1))), (some (7, false))⟩, ⟨(some 9), (.ifEq false true [15, 17, 97, 104, 115] (.t 8) (.c .nilIface)), (some (7, false))⟩, ⟨(some 10), (.pick (.t 7) (.c (.bool (.lit true))) (.t 9)), none⟩])
 (.cond (.t 10) (.seq (.reg [⟨(some 11), (.p (.mv (.t 0))), none⟩, ⟨(some 12), (.ifEq false true [15, 17, 97, 104, 115] (.t 11) (.c .nilIface)), none⟩, ⟨(some 13), (.p (.mv (.t 12))), none⟩, ⟨(some 14), (.p (.mv (.t 1))), (some (13, true))⟩, ⟨(some 15), (.ifEq false true [15, 17, 97, 104, 115] (.t 14) (.c .nilIface)), (some (13, true))⟩, ⟨(some 16), (.pick (.t 13) (.t 15) (.c (.bool (.lit false)))), none⟩, ⟨(some 4), (.p (.mv (.t 16))), none⟩])
 .ret)
 .skip))
 (.seq (.reg [⟨(some 17), (.p (.mv (.t 0))), none⟩, ⟨(some 18), (.p (.mv (.t 1))), none⟩, ⟨(some 19), (.ifEq false false [15, 17, 97, 104, 115] (.t 17) (.t 18)), none⟩, ⟨(some 4), (.p (.mv (.t 19))), none⟩])
 .ret)))⟩
def F : Nat → Option AFunc
  | 6 => some af6
  | 7 => some af7
  | 8 => some af8
  | 10 => some af10
  | 11 => some af11
  | 12 => some af12
  | 13 => some af13
  | 14 => some af14
  | 15 => some af15
  | 16 => some af16
  | 17 => some af17
  | 18 => some af18
  | 19 => some af19
  | 20 => some af20
  | 21 => some af21
  | 22 => some af22
  | 23 => some af23
  | 24 => some af24
  | 25 => some af25
  | 26 => some af26
  | 27 => some af27
  | 28 => some af28
  | 29 => some af29
  | 30 => some af30
  | 31 => some af31
  | 32 => some af32
  | 33 => some af33
  | 34 => some af34
  | 35 => some af35
  | 36 => some af36
  | 37 => some af37
  | 38 => some af38
  | 39 => some af39
  | 40 => some af40
  | 41 => some af41
  | 42 => some af42
  | 43 => some af43
  | 44 => some af44
  | 45 => some af45
  | 46 => some af46
  | 47 => some af47
  | 48 => some af48
  | 49 => some af49
  | 50 => some af50
  | 51 => some af51
  | _ => none
theorem cf6 : cFunc Tryd.prog 6 = some af6 := by kernel_rfl
theorem cf7 : cFunc Tryd.prog 7 = some af7 := by kernel_rfl
theorem cf8 : cFunc Tryd.prog 8 = some af8 := by kernel_rfl
theorem cf10 : cFunc Tryd.prog 10 = some af10 := by kernel_rfl
theorem cf11 : cFunc Tryd.prog 11 = some af11 := by kernel_rfl
theorem cf12 : cFunc Tryd.prog 12 = some af12 := by kernel_rfl
theorem cf13 : cFunc Tryd.prog 13 = some af13 := by kernel_rfl
theorem cf14 : cFunc Tryd.prog 14 = some af14 := by kernel_rfl
theorem cf15 : cFunc Tryd.prog 15 = some af15 := by kernel_rfl
theorem cf16 : cFunc Tryd.prog 16 = some af16 := by kernel_rfl
theorem cf17 : cFunc Tryd.prog 17 = some af17 := by kernel_rfl
theorem cf18 : cFunc Tryd.prog 18 = some af18 := by kernel_rfl
theorem cf19 : cFunc Tryd.prog 19 = some af19 := by kernel_rfl
theorem cf20 : cFunc Tryd.prog 20 = some af20 := by kernel_rfl
theorem cf21 : cFunc Tryd.prog 21 = some af21 := by kernel_rfl
theorem cf22 : cFunc Tryd.prog 22 = some af22 := by kernel_rfl
theorem cf23 : cFunc Tryd.prog 23 = some af23 := by kernel_rfl
theorem cf24 : cFunc Tryd.prog 24 = some af24 := by kernel_rfl
theorem cf25 : cFunc Tryd.prog 25 = some af25 := by kernel_rfl
theorem cf26 : cFunc Tryd.prog 26 = some af26 := by kernel_rfl
theorem cf27 : cFunc Tryd.prog 27 = some af27 := by kernel_rfl
theorem cf28 : cFunc Tryd.prog 28 = some af28 := by kernel_rfl
theorem cf29 : cFunc Tryd.prog 29 = some af29 := by kernel_rfl
theorem cf30 : cFunc Tryd.prog 30 = some af30 := by kernel_rfl
theorem cf31 : cFunc Tryd.prog 31 = some af31 := by kernel_rfl
theorem cf32 : cFunc Tryd.prog 32 = some af32 := by kernel_rfl
theorem cf33 : cFunc Tryd.prog 33 = some af33 := by kernel_rfl
theorem cf34 : cFunc Tryd.prog 34 = some af34 := by kernel_rfl
theorem cf35 : cFunc Tryd.prog 35 = some af35 := by kernel_rfl
theorem cf36 : cFunc Tryd.prog 36 = some af36 := by kernel_rfl
theorem cf37 : cFunc Tryd.prog 37 = some af37 := by kernel_rfl
theorem cf38 : cFunc Tryd.prog 38 = some af38 := by kernel_rfl
theorem cf39 : cFunc Tryd.prog 39 = some af39 := by kernel_rfl
theorem cf40 : cFunc Tryd.prog 40 = some af40 := by kernel_rfl
theorem cf41 : cFunc Tryd.prog 41 = some af41 := by kernel_rfl
theorem cf42 : cFunc Tryd.prog 42 = some af42 := by kernel_rfl
theorem cf43 : cFunc Tryd.prog 43 = some af43 := by kernel_rfl
theorem cf44 : cFunc Tryd.prog 44 = some af44 := by kernel_rfl
theorem cf45 : cFunc Tryd.prog 45 = some af45 := by kernel_rfl
theorem cf46 : cFunc Tryd.prog 46 = some af46 := by kernel_rfl
theorem cf47 : cFunc Tryd.prog 47 = some af47 := by kernel_rfl
theorem cf48 : cFunc Tryd.prog 48 = some af48 := by kernel_rfl
theorem cf49 : cFunc Tryd.prog 49 = some af49 := by kernel_rfl
theorem cf50 : cFunc Tryd.prog 50 = some af50 := by kernel_rfl
theorem cf51 : cFunc Tryd.prog 51 = some af51 := by kernel_rfl
theorem hF : ∀ f af, F f = some af → cFunc Tryd.prog f = some af := by
  intro f af h
  unfold F at h
  split at h
  · cases h; exact cf6
  · cases h; exact cf7
  · cases h; exact cf8
  · cases h; exact cf10
  · cases h; exact cf11
  · cases h; exact cf12
  · cases h; exact cf13
  · cases h; exact cf14
  · cases h; exact cf15
  · cases h; exact cf16
  · cases h; exact cf17
  · cases h; exact cf18
  · cases h; exact cf19
  · cases h; exact cf20
  · cases h; exact cf21
  · cases h; exact cf22
  · cases h; exact cf23
  · cases h; exact cf24
  · cases h; exact cf25
  · cases h; exact cf26
  · cases h; exact cf27
  · cases h; exact cf28
  · cases h; exact cf29
  · cases h; exact cf30
  · cases h; exact cf31
  · cases h; exact cf32
  · cases h; exact cf33
  · cases h; exact cf34
  · cases h; exact cf35
  · cases h; exact cf36
  · cases h; exact cf37
  · cases h; exact cf38
  · cases h; exact cf39
  · cases h; exact cf40
  · cases h; exact cf41
  · cases h; exact cf42
  · cases h; exact cf43
  · cases h; exact cf44
  · cases h; exact cf45
  · cases h; exact cf46
  · cases h; exact cf47
  · cases h; exact cf48
  · cases h; exact cf49
  · cases h; exact cf50
  · cases h; exact cf51
  · cases h
theorem mixed : Tryd.prog.follows .mixedOrders = true := Tryd.checked.mixed
def doorL : List DoorE := [⟨"corral/api.ErrMany", 3, [116, 111, 111, 32, 109, 97, 110, 121]⟩,
 ⟨"corral/api.ErrKind", 0, [110, 111, 32, 115, 117, 99, 104, 32, 107, 105, 110, 100]⟩,
 ⟨"corral/api.ErrPlace", 4, [110, 111, 32, 115, 117, 99, 104, 32, 112, 108, 97, 99, 101]⟩,
 ⟨"corral/api.ErrShape", 2, [110, 111, 116, 32, 116, 104, 101, 32, 115, 104, 97, 112, 101, 32, 116, 104, 97, 116, 32, 105, 116, 32, 104, 97, 115, 32, 116, 111, 32, 104, 97, 118, 101]⟩,
 ⟨"corral/api.ErrWord", 5, [110, 111, 32, 115, 117, 99, 104, 32, 119, 111, 114, 100]⟩,
 ⟨"corral/api.ErrRange", 1, [97, 32, 110, 117, 109, 98, 101, 114, 32, 111, 117, 116, 32, 111, 102, 32, 105, 116, 115, 32, 114, 97, 110, 103, 101]⟩,
 ⟨"corral/api.ErrFull", 6, [110, 111, 32, 114, 111, 111, 109]⟩,
 ⟨"corral/api.ErrNone", 7, [116, 104, 101, 114, 101, 32, 105, 115, 32, 110, 111, 110, 101]⟩,
 ⟨"corral/api.ErrTrace", 8, [110, 111, 32, 114, 117, 110, 32, 111, 102, 32, 116, 104, 101, 32, 105, 110, 115, 116, 114, 117, 99, 116, 105, 111, 110, 115]⟩,
 ⟨"corral/api.ErrOrder", 9, [97, 110, 32, 111, 114, 100, 101, 114, 32, 116, 104, 97, 116, 32, 109, 97, 121, 32, 110, 111, 116, 32, 98, 101]⟩,
 ⟨"corral/api.ErrValue", 10, [97, 32, 118, 97, 108, 117, 101, 32, 116, 104, 97, 116, 32, 119, 97, 115, 32, 110, 111, 116, 32, 116, 104, 101, 114, 101]⟩]
def doorH : Hp := match pushAll hpE (objsFrom 104 0 doorL) with | some h => h | none => hpE
theorem doorH_eq : pushAll hp0 (objsFrom 104 0 doorL) = some doorH := by kernel_rfl
theorem doorH_ok : doorOK doorH = true := by kernel_rfl
def G : Nat → Option Nat := Gof 0 doorL
theorem G_lt : ∀ g id, G g = some id → id < doorH.sz := by
  intro g id h
  have hsz : doorH.sz = 22 := by kernel_rfl
  rw [hsz]
  exact Gof_lt (k := 0) (by kernel_rfl) h
end Go.Proofs.YtagaclifeoiepabDoor.isaNames

/- The functions that AluSays comes to, as the symbolic machine runs them, each held against the program's. No condition. -/
import Derived.Test.YtagaclifeoiepaaRows
import Derived.Test.YtagaclifeoiepaaSyDoor
import Derived.Test.YtagaclifeoiepaaSyUse
namespace Go.Proofs.Ytagaclifeoiepaa.aluSays
open Go.Sx
set_option linter.unusedVariables false
set_option linter.unusedSimpArgs false
set_option maxRecDepth 1000000
/- corral/corrallaw4.AluSays -/
def af12 : AFunc := ⟨121, [.t 6],
 (.seq (.reg [⟨(some 6), (.p (.mv (.c (.bool (.lit false))))), none⟩])
 (.seq (.reg [⟨(some 20), (.call (.f 29) []), none⟩, ⟨(some 7), (.p (.mv (.t 20))), none⟩])
 (.seq (.seq (.reg [⟨(some 21), (.p (.mv (.t 7))), none⟩, ⟨(some 22), (.p (.un .not (.t 21))), none⟩])
 (.cond (.t 22) (.seq (.reg [⟨(some 6), (.p (.mv (.c (.bool (.lit false))))), none⟩])
 .ret)
 .skip))
 (.seq (.reg [⟨(some 24), (.p (.mv (.t 0))), none⟩, ⟨(some 25), (.p (.mv (.t 1))), none⟩, ⟨(some 26), (.p (.mv (.t 2))), none⟩, ⟨(some 27), (.call (.f 31) [(.t 24), (.t 25), (.t 26)]), none⟩, ⟨(some 23), (.p (.mv (.t 27))), none⟩, ⟨(some 28), (.p (.extract 0 (.t 23))), none⟩, ⟨(some 29), (.p (.extract 1 (.t 23))), none⟩, ⟨(some 8), (.p (.mv (.t 28))), none⟩, ⟨(some 9), (.p (.mv (.t 29))), none⟩])
 (.seq (.reg [⟨(some 31), (.p (.mv (.t 0))), none⟩, ⟨(some 32), (.p (.mv (.t 1))), none⟩, ⟨(some 33), (.p (.mv (.t 2))), none⟩, ⟨(some 34), (.call (.f 36) [(.t 31), (.t 32), (.t 33)]), none⟩, ⟨(some 30), (.p (.mv (.t 34))), none⟩, ⟨(some 35), (.p (.extract 0 (.t 30))), none⟩, ⟨(some 36), (.p (.extract 1 (.t 30))), none⟩, ⟨(some 10), (.p (.mv (.t 35))), none⟩, ⟨(some 11), (.p (.mv (.t 36))), none⟩])
 (.seq (.reg [⟨(some 38), (.p (.mv (.t 0))), none⟩, ⟨(some 39), (.p (.mv (.t 1))), none⟩, ⟨(some 40), (.p (.mv (.t 2))), none⟩, ⟨(some 41), (.call (.f 35) [(.t 38), (.t 39), (.t 40)]), none⟩, ⟨(some 37), (.p (.mv (.t 41))), none⟩, ⟨(some 42), (.p (.extract 0 (.t 37))), none⟩, ⟨(some 43), (.p (.extract 1 (.t 37))), none⟩, ⟨(some 12), (.p (.mv (.t 42))), none⟩, ⟨(some 13), (.p (.mv (.t 43))), none⟩])
 (.seq (.reg [⟨(some 45), (.p (.mv (.t 0))), none⟩, ⟨(some 46), (.p (.mv (.t 1))), none⟩, ⟨(some 47), (.p (.mv (.t 2))), none⟩, ⟨(some 48), (.call (.f 37) [(.t 45), (.t 46), (.t 47)]), none⟩, ⟨(some 44), (.p (.mv (.t 48))), none⟩, ⟨(some 49), (.p (.extract 0 (.t 44))), none⟩, ⟨(some 50), (.p (.extract 1 (.t 44))), none⟩, ⟨(some 14), (.p (.mv (.t 49))), none⟩, ⟨(some 15), (.p (.mv (.t 50))), none⟩])
 (.seq (.reg [⟨(some 52), (.p (.mv (.t 0))), none⟩, ⟨(some 53), (.p (.mv (.t 1))), none⟩, ⟨(some 54), (.p (.mv (.t 2))), none⟩, ⟨(some 55), (.call (.f 32) [(.t 52), (.t 53), (.t 54)]), none⟩, ⟨(some 51), (.p (.mv (.t 55))), none⟩, ⟨(some 56), (.p (.extract 0 (.t 51))), none⟩, ⟨(some 57), (.p (.extract 1 (.t 51))), none⟩, ⟨(some 16), (.p (.mv (.t 56))), none⟩, ⟨(some 17), (.p (.mv (.t 57))), none⟩])
 (.seq (.reg [⟨(some 59), (.p (.mv (.t 0))), none⟩, ⟨(some 60), (.p (.mv (.t 1))), none⟩, ⟨(some 61), (.p (.mv (.t 2))), none⟩, ⟨(some 62), (.call (.f 38) [(.t 59), (.t 60), (.t 61)]), none⟩, ⟨(some 58), (.p (.mv (.t 62))), none⟩, ⟨(some 63), (.p (.extract 0 (.t 58))), none⟩, ⟨(some 64), (.p (.extract 1 (.t 58))), none⟩, ⟨(some 18), (.p (.mv (.t 63))), none⟩, ⟨(some 19), (.p (.mv (.t 64))), none⟩])
 (.seq (.reg [⟨(some 65), (.p (.mv (.t 7))), none⟩, ⟨(some 66), (.p (.mv (.t 65))), none⟩, ⟨(some 67), (.p (.mv (.t 8))), (some (66, true))⟩, ⟨(some 68), (.p (.mv (.t 10))), (some (66, true))⟩, ⟨(some 69), (.p (.bin 0 .eql (.t 67) (.t 68))), (some (66, true))⟩, ⟨(some 70), (.pick (.t 66) (.t 69) (.c (.bool (.lit false)))), none⟩, ⟨(some 71), (.p (.mv (.t 70))), none⟩, ⟨(some 72), (.p (.mv (.t 9))), (some (71, true))⟩, ⟨(some 73), (.p (.mv (.t 11))), (some (71, true))⟩, ⟨(some 74), (.p (.bin 1 .eql (.t 72) (.t 73))), (some (71, true))⟩, ⟨(some 75), (.pick (.t 71) (.t 74) (.c (.bool (.lit false)))), none⟩, ⟨(some 76), (.p (.mv (.t 75))), none⟩, ⟨(some 77), (.p (.mv (.t 12))), (some (76, true))⟩, ⟨(some 78), (.p (.mv (.t 14))), (some (76, true))⟩, ⟨(some 79), (.p (.bin 1 .eql (.t 77) (.t 78))), (some (76, true))⟩, ⟨(some 80), (.pick (.t 76) (.t 79) (.c (.bool (.lit false)))), none⟩, ⟨(some 81), (.p (.mv (.t 80))), none⟩, ⟨(some 82), (.p (.mv (.t 13))), (some (81, true))⟩, ⟨(some 83), (.p (.mv (.t 15))), (some (81, true))⟩, ⟨(some 84), (.p (.bin 1 .eql (.t 82) (.t 83))), (some (81, true))⟩, ⟨(some 85), (.pick (.t 81) (.t 84) (.c (.bool (.lit false)))), none⟩, ⟨(some 86), (.p (.mv (.t 85))), none⟩, ⟨(some 87), (.p (.mv (.t 16))), (some (86, true))⟩, ⟨(some 88), (.p (.mv (.t 18))), (some (86, true))⟩, ⟨(some 89), (.p (.bin 0 .eql (.t 87) (.t 88))), (some (86, true))⟩, ⟨(some 90), (.pick (.t 86) (.t 89) (.c (.bool (.lit false)))), none⟩, ⟨(some 91), (.p (.mv (.t 90))), none⟩, ⟨(some 92), (.p (.mv (.t 17))), (some (91, true))⟩, ⟨(some 93), (.p (.mv (.t 19))), (some (91, true))⟩, ⟨(some 94), (.p (.bin 1 .eql (.t 92) (.t 93))), (some (91, true))⟩, ⟨(some 95), (.pick (.t 91) (.t 94) (.c (.bool (.lit false)))), none⟩, ⟨(some 96), (.p (.mv (.t 95))), none⟩, ⟨(some 97), (.p (.mv (.t 0))), (some (96, true))⟩, ⟨(some 98), (.call (.f 39) [(.t 97)]), (some (96, true))⟩, ⟨(some 99), (.p (.mv (.t 0))), (some (96, true))⟩, ⟨(some 100), (.call (.f 40) [(.t 99)]), (some (96, true))⟩, ⟨(some 101), (.p (.bin 0 .eql (.t 98) (.t 100))), (some (96, true))⟩, ⟨(some 102), (.pick (.t 96) (.t 101) (.c (.bool (.lit false)))), none⟩, ⟨(some 103), (.p (.mv (.t 102))), none⟩, ⟨(some 104), (.p (.mv (.t 0))), (some (103, true))⟩, ⟨(some 105), (.p (.mv (.t 1))), (some (103, true))⟩, ⟨(some 106), (.call (.f 34) [(.t 104), (.t 105)]), (some (103, true))⟩, ⟨(some 107), (.p (.mv (.t 0))), (some (103, true))⟩, ⟨(some 108), (.p (.mv (.t 1))), (some (103, true))⟩, ⟨(some 109), (.call (.f 41) [(.t 107), (.t 108)]), (some (103, true))⟩, ⟨(some 110), (.p (.bin 0 .eql (.t 106) (.t 109))), (some (103, true))⟩, ⟨(some 111), (.pick (.t 103) (.t 110) (.c (.bool (.lit false)))), none⟩, ⟨(some 112), (.p (.mv (.t 111))), none⟩, ⟨(some 113), (.p (.mv (.t 0))), (some (112, true))⟩, ⟨(some 114), (.p (.mv (.t 1))), (some (112, true))⟩, ⟨(some 115), (.call (.f 33) [(.t 113), (.t 114)]), (some (112, true))⟩, ⟨(some 116), (.p (.mv (.t 0))), (some (112, true))⟩, ⟨(some 117), (.p (.mv (.t 1))), (some (112, true))⟩, ⟨(some 118), (.call (.f 42) [(.t 116), (.t 117)]), (some (112, true))⟩, ⟨(some 119), (.p (.bin 0 .eql (.t 115) (.t 118))), (some (112, true))⟩, ⟨(some 120), (.pick (.t 112) (.t 119) (.c (.bool (.lit false)))), none⟩, ⟨(some 6), (.p (.mv (.t 120))), none⟩])
 .ret))))))))))⟩
/- corral/corrallaw4.first -/
def af29 : AFunc := ⟨29, [.t 0],
 (.seq (.reg [⟨(some 0), (.p (.mv (.c (.bool (.lit false))))), none⟩])
 (.seq (.reg [⟨(some 6), (.call (.f 31) [(.c (.int .i64 (.lit 35))), (.c (.int .u32 (.lit 2147483648))), (.c (.int .u32 (.lit 33)))]), none⟩, ⟨(some 5), (.p (.mv (.t 6))), none⟩, ⟨(some 7), (.p (.extract 0 (.t 5))), none⟩, ⟨(some 8), (.p (.extract 1 (.t 5))), none⟩, ⟨(some 1), (.p (.mv (.t 7))), none⟩, ⟨(some 2), (.p (.mv (.t 8))), none⟩])
 (.seq (.reg [⟨(some 10), (.call (.f 32) [(.c (.int .i64 (.lit 67))), (.c (.int .u32 (.lit 4294967295))), (.c (.int .u32 (.lit 1)))]), none⟩, ⟨(some 9), (.p (.mv (.t 10))), none⟩, ⟨(some 11), (.p (.extract 0 (.t 9))), none⟩, ⟨(some 12), (.p (.extract 1 (.t 9))), none⟩, ⟨(some 3), (.p (.mv (.t 11))), none⟩, ⟨(some 4), (.p (.mv (.t 12))), none⟩])
 (.seq (.reg [⟨(some 13), (.p (.mv (.t 1))), none⟩, ⟨(some 14), (.p (.bin 0 .eql (.t 13) (.c (.int .u32 (.lit 3221225472))))), none⟩, ⟨(some 15), (.p (.mv (.t 14))), none⟩, ⟨(some 16), (.p (.mv (.t 2))), (some (15, true))⟩, ⟨(some 17), (.pick (.t 15) (.t 16) (.c (.bool (.lit false)))), none⟩, ⟨(some 18), (.p (.mv (.t 17))), none⟩, ⟨(some 19), (.call (.f 34) [(.c (.int .i64 (.lit 11))), (.c (.int .u32 (.lit 128)))]), (some (18, true))⟩, ⟨(some 20), (.p (.bin 0 .eql (.t 19) (.c (.int .u32 (.lit 4294967168))))), (some (18, true))⟩, ⟨(some 21), (.pick (.t 18) (.t 20) (.c (.bool (.lit false)))), none⟩, ⟨(some 22), (.p (.mv (.t 21))), none⟩, ⟨(some 23), (.p (.mv (.t 3))), (some (22, true))⟩, ⟨(some 24), (.p (.bin 0 .eql (.t 23) (.c (.int .u32 (.lit 1))))), (some (22, true))⟩, ⟨(some 25), (.pick (.t 22) (.t 24) (.c (.bool (.lit false)))), none⟩, ⟨(some 26), (.p (.mv (.t 25))), none⟩, ⟨(some 27), (.p (.mv (.t 4))), (some (26, true))⟩, ⟨(some 28), (.pick (.t 26) (.t 27) (.c (.bool (.lit false)))), none⟩, ⟨(some 0), (.p (.mv (.t 28))), none⟩])
 .ret))))⟩
/- corral/alu.Do -/
def af31 : AFunc := ⟨112, [.t 6, .t 7],
 (.seq (.reg [⟨(some 6), (.p (.mv (.c (.int .u32 (.lit 0))))), none⟩, ⟨(some 7), (.p (.mv (.c (.bool (.lit false))))), none⟩])
 (.seq (.seq (.reg [⟨(some 8), (.p (.mv (.t 0))), none⟩])
 (.block 0 (.seq (.seq (.reg [⟨(some 10), (.p (.bin 0 .eql (.t 8) (.c (.int .i64 (.lit 28))))), none⟩, ⟨(some 9), (.p (.mv (.t 10))), none⟩])
 (.cond (.t 9) .skip
 (.reg [⟨(some 11), (.p (.bin 0 .eql (.t 8) (.c (.int .i64 (.lit 19))))), none⟩, ⟨(some 9), (.p (.mv (.t 11))), none⟩])))
 (.cond (.t 9) (.seq (.reg [⟨(some 12), (.p (.mv (.t 1))), none⟩, ⟨(some 13), (.p (.mv (.t 2))), none⟩, ⟨(some 14), (.p (.bin 0 .add (.t 12) (.t 13))), none⟩, ⟨(some 6), (.p (.mv (.t 14))), none⟩, ⟨(some 7), (.p (.mv (.c (.bool (.lit true))))), none⟩])
 .ret)
 (.seq (.reg [⟨(some 16), (.p (.bin 0 .eql (.t 8) (.c (.int .i64 (.lit 29))))), none⟩, ⟨(some 15), (.p (.mv (.t 16))), none⟩])
 (.cond (.t 15) (.seq (.reg [⟨(some 17), (.p (.mv (.t 1))), none⟩, ⟨(some 18), (.p (.mv (.t 2))), none⟩, ⟨(some 19), (.p (.bin 0 .sub (.t 17) (.t 18))), none⟩, ⟨(some 6), (.p (.mv (.t 19))), none⟩, ⟨(some 7), (.p (.mv (.c (.bool (.lit true))))), none⟩])
 .ret)
 (.seq (.seq (.reg [⟨(some 21), (.p (.bin 0 .eql (.t 8) (.c (.int .i64 (.lit 30))))), none⟩, ⟨(some 20), (.p (.mv (.t 21))), none⟩])
 (.cond (.t 20) .skip
 (.reg [⟨(some 22), (.p (.bin 0 .eql (.t 8) (.c (.int .i64 (.lit 25))))), none⟩, ⟨(some 20), (.p (.mv (.t 22))), none⟩])))
 (.cond (.t 20) (.seq (.reg [⟨(some 23), (.p (.mv (.t 1))), none⟩, ⟨(some 24), (.p (.mv (.t 2))), none⟩, ⟨(some 25), (.p (.bin 0 .and (.t 24) (.c (.int .u32 (.lit 31))))), none⟩, ⟨(some 26), (.p (.conv .i64 (.t 25))), none⟩, ⟨(some 27), (.call (.f 58) [(.t 23), (.t 26)]), none⟩, ⟨(some 6), (.p (.mv (.t 27))), none⟩, ⟨(some 7), (.p (.mv (.c (.bool (.lit true))))), none⟩])
 .ret)
 (.seq (.seq (.reg [⟨(some 29), (.p (.bin 0 .eql (.t 8) (.c (.int .i64 (.lit 31))))), none⟩, ⟨(some 28), (.p (.mv (.t 29))), none⟩])
 (.cond (.t 28) .skip
 (.reg [⟨(some 30), (.p (.bin 0 .eql (.t 8) (.c (.int .i64 (.lit 20))))), none⟩, ⟨(some 28), (.p (.mv (.t 30))), none⟩])))
 (.cond (.t 28) (.seq (.reg [⟨(some 31), (.p (.mv (.t 1))), none⟩, ⟨(some 32), (.p (.mv (.t 2))), none⟩, ⟨(some 33), (.call (.f 60) [(.t 31), (.t 32), (.c (.bool (.lit true)))]), none⟩, ⟨(some 34), (.call (.f 59) [(.t 33)]), none⟩, ⟨(some 6), (.p (.mv (.t 34))), none⟩, ⟨(some 7), (.p (.mv (.c (.bool (.lit true))))), none⟩])
 .ret)
 (.seq (.seq (.reg [⟨(some 36), (.p (.bin 0 .eql (.t 8) (.c (.int .i64 (.lit 32))))), none⟩, ⟨(some 35), (.p (.mv (.t 36))), none⟩])
 (.cond (.t 35) .skip
 (.reg [⟨(some 37), (.p (.bin 0 .eql (.t 8) (.c (.int .i64 (.lit 21))))), none⟩, ⟨(some 35), (.p (.mv (.t 37))), none⟩])))
 (.cond (.t 35) (.seq (.reg [⟨(some 38), (.p (.mv (.t 1))), none⟩, ⟨(some 39), (.p (.mv (.t 2))), none⟩, ⟨(some 40), (.call (.f 60) [(.t 38), (.t 39), (.c (.bool (.lit false)))]), none⟩, ⟨(some 41), (.call (.f 59) [(.t 40)]), none⟩, ⟨(some 6), (.p (.mv (.t 41))), none⟩, ⟨(some 7), (.p (.mv (.c (.bool (.lit true))))), none⟩])
 .ret)
 (.seq (.seq (.reg [⟨(some 43), (.p (.bin 0 .eql (.t 8) (.c (.int .i64 (.lit 33))))), none⟩, ⟨(some 42), (.p (.mv (.t 43))), none⟩])
 (.cond (.t 42) .skip
 (.reg [⟨(some 44), (.p (.bin 0 .eql (.t 8) (.c (.int .i64 (.lit 22))))), none⟩, ⟨(some 42), (.p (.mv (.t 44))), none⟩])))
 (.cond (.t 42) (.seq (.reg [⟨(some 45), (.p (.mv (.t 1))), none⟩, ⟨(some 46), (.p (.mv (.t 2))), none⟩, ⟨(some 47), (.p (.bin 0 .xor (.t 45) (.t 46))), none⟩, ⟨(some 6), (.p (.mv (.t 47))), none⟩, ⟨(some 7), (.p (.mv (.c (.bool (.lit true))))), none⟩])
 .ret)
 (.seq (.seq (.reg [⟨(some 49), (.p (.bin 0 .eql (.t 8) (.c (.int .i64 (.lit 34))))), none⟩, ⟨(some 48), (.p (.mv (.t 49))), none⟩])
 (.cond (.t 48) .skip
 (.reg [⟨(some 50), (.p (.bin 0 .eql (.t 8) (.c (.int .i64 (.lit 26))))), none⟩, ⟨(some 48), (.p (.mv (.t 50))), none⟩])))
 (.cond (.t 48) (.seq (.reg [⟨(some 51), (.p (.mv (.t 1))), none⟩, ⟨(some 52), (.p (.mv (.t 2))), none⟩, ⟨(some 53), (.p (.bin 0 .and (.t 52) (.c (.int .u32 (.lit 31))))), none⟩, ⟨(some 54), (.p (.conv .i64 (.t 53))), none⟩, ⟨(some 55), (.call (.f 61) [(.t 51), (.t 54), (.c (.bool (.lit false)))]), none⟩, ⟨(some 6), (.p (.mv (.t 55))), none⟩, ⟨(some 7), (.p (.mv (.c (.bool (.lit true))))), none⟩])
 .ret)
 (.seq (.seq (.reg [⟨(some 57), (.p (.bin 0 .eql (.t 8) (.c (.int .i64 (.lit 35))))), none⟩, ⟨(some 56), (.p (.mv (.t 57))), none⟩])
 (.cond (.t 56) .skip
 (.reg [⟨(some 58), (.p (.bin 0 .eql (.t 8) (.c (.int .i64 (.lit 27))))), none⟩, ⟨(some 56), (.p (.mv (.t 58))), none⟩])))
 (.cond (.t 56) (.seq (.reg [⟨(some 59), (.p (.mv (.t 1))), none⟩, ⟨(some 60), (.p (.mv (.t 2))), none⟩, ⟨(some 61), (.p (.bin 0 .and (.t 60) (.c (.int .u32 (.lit 31))))), none⟩, ⟨(some 62), (.p (.conv .i64 (.t 61))), none⟩, ⟨(some 63), (.call (.f 61) [(.t 59), (.t 62), (.c (.bool (.lit true)))]), none⟩, ⟨(some 6), (.p (.mv (.t 63))), none⟩, ⟨(some 7), (.p (.mv (.c (.bool (.lit true))))), none⟩])
 .ret)
 (.seq (.seq (.reg [⟨(some 65), (.p (.bin 0 .eql (.t 8) (.c (.int .i64 (.lit 36))))), none⟩, ⟨(some 64), (.p (.mv (.t 65))), none⟩])
 (.cond (.t 64) .skip
 (.reg [⟨(some 66), (.p (.bin 0 .eql (.t 8) (.c (.int .i64 (.lit 23))))), none⟩, ⟨(some 64), (.p (.mv (.t 66))), none⟩])))
 (.cond (.t 64) (.seq (.reg [⟨(some 67), (.p (.mv (.t 1))), none⟩, ⟨(some 68), (.p (.mv (.t 2))), none⟩, ⟨(some 69), (.p (.bin 0 .or (.t 67) (.t 68))), none⟩, ⟨(some 6), (.p (.mv (.t 69))), none⟩, ⟨(some 7), (.p (.mv (.c (.bool (.lit true))))), none⟩])
 .ret)
 (.seq (.seq (.reg [⟨(some 71), (.p (.bin 0 .eql (.t 8) (.c (.int .i64 (.lit 37))))), none⟩, ⟨(some 70), (.p (.mv (.t 71))), none⟩])
 (.cond (.t 70) .skip
 (.reg [⟨(some 72), (.p (.bin 0 .eql (.t 8) (.c (.int .i64 (.lit 24))))), none⟩, ⟨(some 70), (.p (.mv (.t 72))), none⟩])))
 (.cond (.t 70) (.seq (.reg [⟨(some 73), (.p (.mv (.t 1))), none⟩, ⟨(some 74), (.p (.mv (.t 2))), none⟩, ⟨(some 75), (.p (.bin 0 .and (.t 73) (.t 74))), none⟩, ⟨(some 6), (.p (.mv (.t 75))), none⟩, ⟨(some 7), (.p (.mv (.c (.bool (.lit true))))), none⟩])
 .ret)
 (.seq (.reg [⟨(some 77), (.p (.bin 0 .eql (.t 8) (.c (.int .i64 (.lit 51))))), none⟩, ⟨(some 76), (.p (.mv (.t 77))), none⟩])
 (.cond (.t 76) (.seq (.reg [⟨(some 78), (.p (.mv (.t 1))), none⟩, ⟨(some 79), (.p (.mv (.t 2))), none⟩, ⟨(some 80), (.p (.bin 0 .mul (.t 78) (.t 79))), none⟩, ⟨(some 6), (.p (.mv (.t 80))), none⟩, ⟨(some 7), (.p (.mv (.c (.bool (.lit true))))), none⟩])
 .ret)
 (.seq (.reg [⟨(some 82), (.p (.bin 0 .eql (.t 8) (.c (.int .i64 (.lit 52))))), none⟩, ⟨(some 81), (.p (.mv (.t 82))), none⟩])
 (.cond (.t 81) (.seq (.reg [⟨(some 83), (.p (.mv (.t 1))), none⟩, ⟨(some 84), (.p (.mv (.t 2))), none⟩, ⟨(some 85), (.call (.f 62) [(.t 83), (.t 84), (.c (.bool (.lit true))), (.c (.bool (.lit true)))]), none⟩, ⟨(some 6), (.p (.mv (.t 85))), none⟩, ⟨(some 7), (.p (.mv (.c (.bool (.lit true))))), none⟩])
 .ret)
 (.seq (.reg [⟨(some 87), (.p (.bin 0 .eql (.t 8) (.c (.int .i64 (.lit 53))))), none⟩, ⟨(some 86), (.p (.mv (.t 87))), none⟩])
 (.cond (.t 86) (.seq (.reg [⟨(some 88), (.p (.mv (.t 1))), none⟩, ⟨(some 89), (.p (.mv (.t 2))), none⟩, ⟨(some 90), (.call (.f 62) [(.t 88), (.t 89), (.c (.bool (.lit true))), (.c (.bool (.lit false)))]), none⟩, ⟨(some 6), (.p (.mv (.t 90))), none⟩, ⟨(some 7), (.p (.mv (.c (.bool (.lit true))))), none⟩])
 .ret)
 (.seq (.reg [⟨(some 92), (.p (.bin 0 .eql (.t 8) (.c (.int .i64 (.lit 54))))), none⟩, ⟨(some 91), (.p (.mv (.t 92))), none⟩])
 (.cond (.t 91) (.seq (.reg [⟨(some 93), (.p (.mv (.t 1))), none⟩, ⟨(some 94), (.p (.mv (.t 2))), none⟩, ⟨(some 95), (.call (.f 62) [(.t 93), (.t 94), (.c (.bool (.lit false))), (.c (.bool (.lit false)))]), none⟩, ⟨(some 6), (.p (.mv (.t 95))), none⟩, ⟨(some 7), (.p (.mv (.c (.bool (.lit true))))), none⟩])
 .ret)
 (.seq (.seq (.reg [⟨(some 97), (.p (.bin 0 .eql (.t 8) (.c (.int .i64 (.lit 55))))), none⟩, ⟨(some 96), (.p (.mv (.t 97))), none⟩])
 (.cond (.t 96) .skip
 (.reg [⟨(some 98), (.p (.bin 0 .eql (.t 8) (.c (.int .i64 (.lit 56))))), none⟩, ⟨(some 96), (.p (.mv (.t 98))), none⟩])))
 (.cond (.t 96) (.seq (.reg [⟨(some 99), (.p (.mv (.t 1))), none⟩, ⟨(some 100), (.p (.mv (.t 2))), none⟩, ⟨(some 101), (.p (.mv (.t 0))), none⟩, ⟨(some 102), (.p (.bin 0 .eql (.t 101) (.c (.int .i64 (.lit 55))))), none⟩, ⟨(some 103), (.call (.f 63) [(.t 99), (.t 100), (.t 102)]), none⟩, ⟨(some 6), (.p (.mv (.t 103))), none⟩, ⟨(some 7), (.p (.mv (.c (.bool (.lit true))))), none⟩])
 .ret)
 (.seq (.seq (.reg [⟨(some 105), (.p (.bin 0 .eql (.t 8) (.c (.int .i64 (.lit 57))))), none⟩, ⟨(some 104), (.p (.mv (.t 105))), none⟩])
 (.cond (.t 104) .skip
 (.reg [⟨(some 106), (.p (.bin 0 .eql (.t 8) (.c (.int .i64 (.lit 58))))), none⟩, ⟨(some 104), (.p (.mv (.t 106))), none⟩])))
 (.cond (.t 104) (.seq (.reg [⟨(some 107), (.p (.mv (.t 1))), none⟩, ⟨(some 108), (.p (.mv (.t 2))), none⟩, ⟨(some 109), (.p (.mv (.t 0))), none⟩, ⟨(some 110), (.p (.bin 0 .eql (.t 109) (.c (.int .i64 (.lit 57))))), none⟩, ⟨(some 111), (.call (.f 64) [(.t 107), (.t 108), (.t 110)]), none⟩, ⟨(some 6), (.p (.mv (.t 111))), none⟩, ⟨(some 7), (.p (.mv (.c (.bool (.lit true))))), none⟩])
 .ret)
 .skip))))))))))))))))))))))))))))))))))
 (.seq (.reg [⟨(some 6), (.p (.mv (.c (.int .u32 (.lit 0))))), none⟩, ⟨(some 7), (.p (.mv (.c (.bool (.lit false))))), none⟩])
 .ret)))⟩
/- corral/alu.Amo -/
def af32 : AFunc := ⟨58, [.t 6, .t 7],
 (.seq (.reg [⟨(some 4), (.box 1 (.t 1)), none⟩, ⟨(some 5), (.box 1 (.t 2)), none⟩, ⟨(some 6), (.p (.mv (.c (.int .u32 (.lit 0))))), none⟩, ⟨(some 7), (.p (.mv (.c (.bool (.lit false))))), none⟩])
 (.seq (.reg [⟨(some 9), (.p (.mkFunc 65 [] [(.t 4), (.t 5)])), none⟩, ⟨(some 8), (.p (.mv (.t 9))), none⟩])
 (.seq (.seq (.reg [⟨(some 10), (.p (.mv (.t 0))), none⟩])
 (.block 0 (.seq (.reg [⟨(some 12), (.p (.bin 0 .eql (.t 10) (.c (.int .i64 (.lit 61))))), none⟩, ⟨(some 11), (.p (.mv (.t 12))), none⟩])
 (.cond (.t 11) (.seq (.reg [⟨(some 13), (.load false 1 (.t 5)), none⟩, ⟨(some 6), (.p (.mv (.t 13))), none⟩, ⟨(some 7), (.p (.mv (.c (.bool (.lit true))))), none⟩])
 .ret)
 (.seq (.reg [⟨(some 15), (.p (.bin 0 .eql (.t 10) (.c (.int .i64 (.lit 62))))), none⟩, ⟨(some 14), (.p (.mv (.t 15))), none⟩])
 (.cond (.t 14) (.seq (.reg [⟨(some 16), (.load false 1 (.t 4)), none⟩, ⟨(some 17), (.load false 1 (.t 5)), none⟩, ⟨(some 18), (.p (.bin 0 .add (.t 16) (.t 17))), none⟩, ⟨(some 6), (.p (.mv (.t 18))), none⟩, ⟨(some 7), (.p (.mv (.c (.bool (.lit true))))), none⟩])
 .ret)
 (.seq (.reg [⟨(some 20), (.p (.bin 0 .eql (.t 10) (.c (.int .i64 (.lit 63))))), none⟩, ⟨(some 19), (.p (.mv (.t 20))), none⟩])
 (.cond (.t 19) (.seq (.reg [⟨(some 21), (.load false 1 (.t 4)), none⟩, ⟨(some 22), (.load false 1 (.t 5)), none⟩, ⟨(some 23), (.p (.bin 0 .xor (.t 21) (.t 22))), none⟩, ⟨(some 6), (.p (.mv (.t 23))), none⟩, ⟨(some 7), (.p (.mv (.c (.bool (.lit true))))), none⟩])
 .ret)
 (.seq (.reg [⟨(some 25), (.p (.bin 0 .eql (.t 10) (.c (.int .i64 (.lit 64))))), none⟩, ⟨(some 24), (.p (.mv (.t 25))), none⟩])
 (.cond (.t 24) (.seq (.reg [⟨(some 26), (.load false 1 (.t 4)), none⟩, ⟨(some 27), (.load false 1 (.t 5)), none⟩, ⟨(some 28), (.p (.bin 0 .and (.t 26) (.t 27))), none⟩, ⟨(some 6), (.p (.mv (.t 28))), none⟩, ⟨(some 7), (.p (.mv (.c (.bool (.lit true))))), none⟩])
 .ret)
 (.seq (.reg [⟨(some 30), (.p (.bin 0 .eql (.t 10) (.c (.int .i64 (.lit 65))))), none⟩, ⟨(some 29), (.p (.mv (.t 30))), none⟩])
 (.cond (.t 29) (.seq (.reg [⟨(some 31), (.load false 1 (.t 4)), none⟩, ⟨(some 32), (.load false 1 (.t 5)), none⟩, ⟨(some 33), (.p (.bin 0 .or (.t 31) (.t 32))), none⟩, ⟨(some 6), (.p (.mv (.t 33))), none⟩, ⟨(some 7), (.p (.mv (.c (.bool (.lit true))))), none⟩])
 .ret)
 (.seq (.seq (.reg [⟨(some 35), (.p (.bin 0 .eql (.t 10) (.c (.int .i64 (.lit 66))))), none⟩, ⟨(some 34), (.p (.mv (.t 35))), none⟩])
 (.cond (.t 34) .skip
 (.reg [⟨(some 36), (.p (.bin 0 .eql (.t 10) (.c (.int .i64 (.lit 68))))), none⟩, ⟨(some 34), (.p (.mv (.t 36))), none⟩])))
 (.cond (.t 34) (.seq (.reg [⟨(some 37), (.p (.mv (.t 8))), none⟩, ⟨(some 38), (.load false 1 (.t 4)), none⟩, ⟨(some 39), (.load false 1 (.t 5)), none⟩, ⟨(some 40), (.p (.mv (.t 0))), none⟩, ⟨(some 41), (.p (.bin 0 .eql (.t 40) (.c (.int .i64 (.lit 66))))), none⟩, ⟨(some 42), (.call (.f 60) [(.t 38), (.t 39), (.t 41)]), none⟩, ⟨(some 43), (.call (.t 37) [(.t 42)]), none⟩, ⟨(some 44), (.p (.extract 0 (.t 43))), none⟩, ⟨(some 45), (.p (.extract 1 (.t 43))), none⟩, ⟨(some 6), (.p (.mv (.t 44))), none⟩, ⟨(some 7), (.p (.mv (.t 45))), none⟩])
 .ret)
 (.seq (.seq (.reg [⟨(some 47), (.p (.bin 0 .eql (.t 10) (.c (.int .i64 (.lit 67))))), none⟩, ⟨(some 46), (.p (.mv (.t 47))), none⟩])
 (.cond (.t 46) .skip
 (.reg [⟨(some 48), (.p (.bin 0 .eql (.t 10) (.c (.int .i64 (.lit 69))))), none⟩, ⟨(some 46), (.p (.mv (.t 48))), none⟩])))
 (.cond (.t 46) (.seq (.reg [⟨(some 49), (.p (.mv (.t 8))), none⟩, ⟨(some 50), (.load false 1 (.t 5)), none⟩, ⟨(some 51), (.load false 1 (.t 4)), none⟩, ⟨(some 52), (.p (.mv (.t 0))), none⟩, ⟨(some 53), (.p (.bin 0 .eql (.t 52) (.c (.int .i64 (.lit 67))))), none⟩, ⟨(some 54), (.call (.f 60) [(.t 50), (.t 51), (.t 53)]), none⟩, ⟨(some 55), (.call (.t 49) [(.t 54)]), none⟩, ⟨(some 56), (.p (.extract 0 (.t 55))), none⟩, ⟨(some 57), (.p (.extract 1 (.t 55))), none⟩, ⟨(some 6), (.p (.mv (.t 56))), none⟩, ⟨(some 7), (.p (.mv (.t 57))), none⟩])
 .ret)
 .skip))))))))))))))))
 (.seq (.reg [⟨(some 6), (.p (.mv (.c (.int .u32 (.lit 0))))), none⟩, ⟨(some 7), (.p (.mv (.c (.bool (.lit false))))), none⟩])
 .ret))))⟩
/- corral/alu.Cut -/
def af33 : AFunc := ⟨17, [.t 4],
 (.seq (.reg [⟨(some 4), (.p (.mv (.c (.int .u32 (.lit 0))))), none⟩])
 (.seq (.seq (.reg [⟨(some 5), (.p (.mv (.t 0))), none⟩, ⟨(some 6), (.call (.f 66) [(.t 5)]), none⟩, ⟨(some 7), (.p (.bin 0 .neq (.t 6) (.c (.int .i64 (.lit 5))))), none⟩, ⟨(some 8), (.p (.mv (.t 7))), none⟩, ⟨(some 9), (.p (.mv (.t 0))), (some (8, true))⟩, ⟨(some 10), (.p (.bin 0 .neq (.t 9) (.c (.int .i64 (.lit 60))))), (some (8, true))⟩, ⟨(some 11), (.pick (.t 8) (.t 10) (.c (.bool (.lit false)))), none⟩])
 (.cond (.t 11) (.seq (.reg [⟨(some 4), (.p (.mv (.c (.int .u32 (.lit 0))))), none⟩])
 .ret)
 .skip))
 (.seq (.reg [⟨(some 12), (.p (.mv (.t 1))), none⟩, ⟨(some 13), (.p (.mv (.t 0))), none⟩, ⟨(some 14), (.call (.f 39) [(.t 13)]), none⟩, ⟨(some 15), (.p (.bin 0 .mul (.c (.int .i64 (.lit 8))) (.t 14))), none⟩, ⟨(some 16), (.call (.f 67) [(.t 12), (.c (.int .i64 (.lit 0))), (.t 15)]), none⟩, ⟨(some 4), (.p (.mv (.t 16))), none⟩])
 .ret)))⟩
/- corral/alu.Extend -/
def af34 : AFunc := ⟨24, [.t 4],
 (.seq (.reg [⟨(some 4), (.p (.mv (.c (.int .u32 (.lit 0))))), none⟩])
 (.seq (.seq (.reg [⟨(some 6), (.p (.mv (.t 0))), none⟩, ⟨(some 7), (.call (.f 68) [(.t 6)]), none⟩, ⟨(some 8), (.p (.un .not (.t 7))), none⟩])
 (.cond (.t 8) (.seq (.reg [⟨(some 4), (.p (.mv (.c (.int .u32 (.lit 0))))), none⟩])
 .ret)
 .skip))
 (.seq (.reg [⟨(some 9), (.p (.mv (.t 0))), none⟩, ⟨(some 10), (.call (.f 39) [(.t 9)]), none⟩, ⟨(some 11), (.p (.bin 0 .mul (.c (.int .i64 (.lit 8))) (.t 10))), none⟩, ⟨(some 5), (.p (.mv (.t 11))), none⟩])
 (.seq (.seq (.reg [⟨(some 12), (.p (.mv (.t 0))), none⟩, ⟨(some 13), (.p (.bin 0 .eql (.t 12) (.c (.int .i64 (.lit 11))))), none⟩, ⟨(some 14), (.p (.mv (.t 13))), none⟩, ⟨(some 15), (.p (.mv (.t 0))), (some (14, false))⟩, ⟨(some 16), (.p (.bin 0 .eql (.t 15) (.c (.int .i64 (.lit 12))))), (some (14, false))⟩, ⟨(some 17), (.pick (.t 14) (.c (.bool (.lit true))) (.t 16)), none⟩])
 (.cond (.t 17) (.seq (.reg [⟨(some 18), (.p (.mv (.t 1))), none⟩, ⟨(some 19), (.p (.mv (.t 5))), none⟩, ⟨(some 20), (.call (.f 69) [(.t 18), (.t 19)]), none⟩, ⟨(some 4), (.p (.mv (.t 20))), none⟩])
 .ret)
 .skip))
 (.seq (.reg [⟨(some 21), (.p (.mv (.t 1))), none⟩, ⟨(some 22), (.p (.mv (.t 5))), none⟩, ⟨(some 23), (.call (.f 67) [(.t 21), (.c (.int .i64 (.lit 0))), (.t 22)]), none⟩, ⟨(some 4), (.p (.mv (.t 23))), none⟩])
 .ret)))))⟩
/- corral/alu.Taken -/
def af35 : AFunc := ⟨36, [.t 6, .t 7],
 (.seq (.reg [⟨(some 6), (.p (.mv (.c (.bool (.lit false))))), none⟩, ⟨(some 7), (.p (.mv (.c (.bool (.lit false))))), none⟩])
 (.seq (.seq (.reg [⟨(some 8), (.p (.mv (.t 0))), none⟩])
 (.block 0 (.seq (.reg [⟨(some 10), (.p (.bin 0 .eql (.t 8) (.c (.int .i64 (.lit 5))))), none⟩, ⟨(some 9), (.p (.mv (.t 10))), none⟩])
 (.cond (.t 9) (.seq (.reg [⟨(some 11), (.p (.mv (.t 1))), none⟩, ⟨(some 12), (.p (.mv (.t 2))), none⟩, ⟨(some 13), (.p (.bin 0 .eql (.t 11) (.t 12))), none⟩, ⟨(some 6), (.p (.mv (.t 13))), none⟩, ⟨(some 7), (.p (.mv (.c (.bool (.lit true))))), none⟩])
 .ret)
 (.seq (.reg [⟨(some 15), (.p (.bin 0 .eql (.t 8) (.c (.int .i64 (.lit 6))))), none⟩, ⟨(some 14), (.p (.mv (.t 15))), none⟩])
 (.cond (.t 14) (.seq (.reg [⟨(some 16), (.p (.mv (.t 1))), none⟩, ⟨(some 17), (.p (.mv (.t 2))), none⟩, ⟨(some 18), (.p (.bin 0 .neq (.t 16) (.t 17))), none⟩, ⟨(some 6), (.p (.mv (.t 18))), none⟩, ⟨(some 7), (.p (.mv (.c (.bool (.lit true))))), none⟩])
 .ret)
 (.seq (.seq (.reg [⟨(some 20), (.p (.bin 0 .eql (.t 8) (.c (.int .i64 (.lit 7))))), none⟩, ⟨(some 19), (.p (.mv (.t 20))), none⟩])
 (.cond (.t 19) .skip
 (.reg [⟨(some 21), (.p (.bin 0 .eql (.t 8) (.c (.int .i64 (.lit 9))))), none⟩, ⟨(some 19), (.p (.mv (.t 21))), none⟩])))
 (.cond (.t 19) (.seq (.reg [⟨(some 22), (.p (.mv (.t 1))), none⟩, ⟨(some 23), (.p (.mv (.t 2))), none⟩, ⟨(some 24), (.p (.mv (.t 0))), none⟩, ⟨(some 25), (.p (.bin 0 .eql (.t 24) (.c (.int .i64 (.lit 7))))), none⟩, ⟨(some 26), (.call (.f 60) [(.t 22), (.t 23), (.t 25)]), none⟩, ⟨(some 6), (.p (.mv (.t 26))), none⟩, ⟨(some 7), (.p (.mv (.c (.bool (.lit true))))), none⟩])
 .ret)
 (.seq (.seq (.reg [⟨(some 28), (.p (.bin 0 .eql (.t 8) (.c (.int .i64 (.lit 8))))), none⟩, ⟨(some 27), (.p (.mv (.t 28))), none⟩])
 (.cond (.t 27) .skip
 (.reg [⟨(some 29), (.p (.bin 0 .eql (.t 8) (.c (.int .i64 (.lit 10))))), none⟩, ⟨(some 27), (.p (.mv (.t 29))), none⟩])))
 (.cond (.t 27) (.seq (.reg [⟨(some 30), (.p (.mv (.t 1))), none⟩, ⟨(some 31), (.p (.mv (.t 2))), none⟩, ⟨(some 32), (.p (.mv (.t 0))), none⟩, ⟨(some 33), (.p (.bin 0 .eql (.t 32) (.c (.int .i64 (.lit 8))))), none⟩, ⟨(some 34), (.call (.f 60) [(.t 30), (.t 31), (.t 33)]), none⟩, ⟨(some 35), (.p (.un .not (.t 34))), none⟩, ⟨(some 6), (.p (.mv (.t 35))), none⟩, ⟨(some 7), (.p (.mv (.c (.bool (.lit true))))), none⟩])
 .ret)
 .skip))))))))))
 (.seq (.reg [⟨(some 6), (.p (.mv (.c (.bool (.lit false))))), none⟩, ⟨(some 7), (.p (.mv (.c (.bool (.lit false))))), none⟩])
 .ret)))⟩
/- corral/corralref1.Do -/
def af36 : AFunc := ⟨108, [.t 6, .t 7],
 (.seq (.reg [⟨(some 6), (.p (.mv (.c (.int .u32 (.lit 0))))), none⟩, ⟨(some 7), (.p (.mv (.c (.bool (.lit false))))), none⟩])
 (.seq (.seq (.reg [⟨(some 8), (.p (.mv (.t 0))), none⟩, ⟨(some 9), (.call (.f 70) [(.t 8)]), none⟩])
 (.block 0 (.seq (.reg [⟨(some 11), (.p (.bin 0 .eql (.t 9) (.c (.int .i64 (.lit 28))))), none⟩, ⟨(some 10), (.p (.mv (.t 11))), none⟩])
 (.cond (.t 10) (.seq (.reg [⟨(some 12), (.p (.mv (.t 1))), none⟩, ⟨(some 13), (.p (.mv (.t 2))), none⟩, ⟨(some 14), (.p (.bin 0 .add (.t 12) (.t 13))), none⟩, ⟨(some 6), (.p (.mv (.t 14))), none⟩, ⟨(some 7), (.p (.mv (.c (.bool (.lit true))))), none⟩])
 .ret)
 (.seq (.reg [⟨(some 16), (.p (.bin 0 .eql (.t 9) (.c (.int .i64 (.lit 29))))), none⟩, ⟨(some 15), (.p (.mv (.t 16))), none⟩])
 (.cond (.t 15) (.seq (.reg [⟨(some 17), (.p (.mv (.t 1))), none⟩, ⟨(some 18), (.p (.mv (.t 2))), none⟩, ⟨(some 19), (.p (.bin 0 .sub (.t 17) (.t 18))), none⟩, ⟨(some 6), (.p (.mv (.t 19))), none⟩, ⟨(some 7), (.p (.mv (.c (.bool (.lit true))))), none⟩])
 .ret)
 (.seq (.reg [⟨(some 21), (.p (.bin 0 .eql (.t 9) (.c (.int .i64 (.lit 30))))), none⟩, ⟨(some 20), (.p (.mv (.t 21))), none⟩])
 (.cond (.t 20) (.seq (.reg [⟨(some 22), (.p (.mv (.t 1))), none⟩, ⟨(some 23), (.p (.mv (.t 2))), none⟩, ⟨(some 24), (.p (.bin 0 .and (.t 23) (.c (.int .u32 (.lit 31))))), none⟩, ⟨(some 25), (.p (.conv .u64 (.t 24))), none⟩, ⟨(some 26), (.p (.bin 0 .shl (.t 22) (.t 25))), none⟩, ⟨(some 6), (.p (.mv (.t 26))), none⟩, ⟨(some 7), (.p (.mv (.c (.bool (.lit true))))), none⟩])
 .ret)
 (.seq (.reg [⟨(some 28), (.p (.bin 0 .eql (.t 9) (.c (.int .i64 (.lit 31))))), none⟩, ⟨(some 27), (.p (.mv (.t 28))), none⟩])
 (.cond (.t 27) (.seq (.reg [⟨(some 29), (.p (.mv (.t 1))), none⟩, ⟨(some 30), (.p (.mv (.t 2))), none⟩, ⟨(some 31), (.call (.f 72) [(.t 29), (.t 30), (.c (.bool (.lit true)))]), none⟩, ⟨(some 32), (.call (.f 71) [(.t 31)]), none⟩, ⟨(some 6), (.p (.mv (.t 32))), none⟩, ⟨(some 7), (.p (.mv (.c (.bool (.lit true))))), none⟩])
 .ret)
 (.seq (.reg [⟨(some 34), (.p (.bin 0 .eql (.t 9) (.c (.int .i64 (.lit 32))))), none⟩, ⟨(some 33), (.p (.mv (.t 34))), none⟩])
 (.cond (.t 33) (.seq (.reg [⟨(some 35), (.p (.mv (.t 1))), none⟩, ⟨(some 36), (.p (.mv (.t 2))), none⟩, ⟨(some 37), (.p (.bin 0 .lss (.t 35) (.t 36))), none⟩, ⟨(some 38), (.call (.f 71) [(.t 37)]), none⟩, ⟨(some 6), (.p (.mv (.t 38))), none⟩, ⟨(some 7), (.p (.mv (.c (.bool (.lit true))))), none⟩])
 .ret)
 (.seq (.reg [⟨(some 40), (.p (.bin 0 .eql (.t 9) (.c (.int .i64 (.lit 33))))), none⟩, ⟨(some 39), (.p (.mv (.t 40))), none⟩])
 (.cond (.t 39) (.seq (.reg [⟨(some 41), (.p (.mv (.t 1))), none⟩, ⟨(some 42), (.p (.mv (.t 2))), none⟩, ⟨(some 43), (.p (.bin 0 .xor (.t 41) (.t 42))), none⟩, ⟨(some 6), (.p (.mv (.t 43))), none⟩, ⟨(some 7), (.p (.mv (.c (.bool (.lit true))))), none⟩])
 .ret)
 (.seq (.reg [⟨(some 45), (.p (.bin 0 .eql (.t 9) (.c (.int .i64 (.lit 34))))), none⟩, ⟨(some 44), (.p (.mv (.t 45))), none⟩])
 (.cond (.t 44) (.seq (.reg [⟨(some 46), (.p (.mv (.t 1))), none⟩, ⟨(some 47), (.p (.mv (.t 2))), none⟩, ⟨(some 48), (.p (.bin 0 .and (.t 47) (.c (.int .u32 (.lit 31))))), none⟩, ⟨(some 49), (.p (.conv .u64 (.t 48))), none⟩, ⟨(some 50), (.p (.bin 0 .shr (.t 46) (.t 49))), none⟩, ⟨(some 6), (.p (.mv (.t 50))), none⟩, ⟨(some 7), (.p (.mv (.c (.bool (.lit true))))), none⟩])
 .ret)
 (.seq (.reg [⟨(some 52), (.p (.bin 0 .eql (.t 9) (.c (.int .i64 (.lit 35))))), none⟩, ⟨(some 51), (.p (.mv (.t 52))), none⟩])
 (.cond (.t 51) (.seq (.reg [⟨(some 53), (.p (.mv (.t 1))), none⟩, ⟨(some 54), (.p (.mv (.t 2))), none⟩, ⟨(some 55), (.p (.bin 0 .and (.t 54) (.c (.int .u32 (.lit 31))))), none⟩, ⟨(some 56), (.p (.conv .i64 (.t 55))), none⟩, ⟨(some 57), (.call (.f 73) [(.t 53), (.t 56), (.c (.bool (.lit true)))]), none⟩, ⟨(some 6), (.p (.mv (.t 57))), none⟩, ⟨(some 7), (.p (.mv (.c (.bool (.lit true))))), none⟩])
 .ret)
 (.seq (.reg [⟨(some 59), (.p (.bin 0 .eql (.t 9) (.c (.int .i64 (.lit 36))))), none⟩, ⟨(some 58), (.p (.mv (.t 59))), none⟩])
 (.cond (.t 58) (.seq (.reg [⟨(some 60), (.p (.mv (.t 1))), none⟩, ⟨(some 61), (.p (.mv (.t 2))), none⟩, ⟨(some 62), (.p (.bin 0 .or (.t 60) (.t 61))), none⟩, ⟨(some 6), (.p (.mv (.t 62))), none⟩, ⟨(some 7), (.p (.mv (.c (.bool (.lit true))))), none⟩])
 .ret)
 (.seq (.reg [⟨(some 64), (.p (.bin 0 .eql (.t 9) (.c (.int .i64 (.lit 37))))), none⟩, ⟨(some 63), (.p (.mv (.t 64))), none⟩])
 (.cond (.t 63) (.seq (.reg [⟨(some 65), (.p (.mv (.t 1))), none⟩, ⟨(some 66), (.p (.mv (.t 2))), none⟩, ⟨(some 67), (.p (.bin 0 .and (.t 65) (.t 66))), none⟩, ⟨(some 6), (.p (.mv (.t 67))), none⟩, ⟨(some 7), (.p (.mv (.c (.bool (.lit true))))), none⟩])
 .ret)
 (.seq (.reg [⟨(some 69), (.p (.bin 0 .eql (.t 9) (.c (.int .i64 (.lit 51))))), none⟩, ⟨(some 68), (.p (.mv (.t 69))), none⟩])
 (.cond (.t 68) (.seq (.reg [⟨(some 70), (.p (.mv (.t 1))), none⟩, ⟨(some 71), (.p (.mv (.t 2))), none⟩, ⟨(some 72), (.p (.bin 0 .mul (.t 70) (.t 71))), none⟩, ⟨(some 6), (.p (.mv (.t 72))), none⟩, ⟨(some 7), (.p (.mv (.c (.bool (.lit true))))), none⟩])
 .ret)
 (.seq (.reg [⟨(some 74), (.p (.bin 0 .eql (.t 9) (.c (.int .i64 (.lit 52))))), none⟩, ⟨(some 73), (.p (.mv (.t 74))), none⟩])
 (.cond (.t 73) (.seq (.reg [⟨(some 75), (.p (.mv (.t 1))), none⟩, ⟨(some 76), (.p (.mv (.t 2))), none⟩, ⟨(some 77), (.call (.f 74) [(.t 75), (.t 76), (.c (.bool (.lit true))), (.c (.bool (.lit true)))]), none⟩, ⟨(some 6), (.p (.mv (.t 77))), none⟩, ⟨(some 7), (.p (.mv (.c (.bool (.lit true))))), none⟩])
 .ret)
 (.seq (.reg [⟨(some 79), (.p (.bin 0 .eql (.t 9) (.c (.int .i64 (.lit 53))))), none⟩, ⟨(some 78), (.p (.mv (.t 79))), none⟩])
 (.cond (.t 78) (.seq (.reg [⟨(some 80), (.p (.mv (.t 1))), none⟩, ⟨(some 81), (.p (.mv (.t 2))), none⟩, ⟨(some 82), (.call (.f 74) [(.t 80), (.t 81), (.c (.bool (.lit true))), (.c (.bool (.lit false)))]), none⟩, ⟨(some 6), (.p (.mv (.t 82))), none⟩, ⟨(some 7), (.p (.mv (.c (.bool (.lit true))))), none⟩])
 .ret)
 (.seq (.reg [⟨(some 84), (.p (.bin 0 .eql (.t 9) (.c (.int .i64 (.lit 54))))), none⟩, ⟨(some 83), (.p (.mv (.t 84))), none⟩])
 (.cond (.t 83) (.seq (.reg [⟨(some 85), (.p (.mv (.t 1))), none⟩, ⟨(some 86), (.p (.mv (.t 2))), none⟩, ⟨(some 87), (.call (.f 74) [(.t 85), (.t 86), (.c (.bool (.lit false))), (.c (.bool (.lit false)))]), none⟩, ⟨(some 6), (.p (.mv (.t 87))), none⟩, ⟨(some 7), (.p (.mv (.c (.bool (.lit true))))), none⟩])
 .ret)
 (.seq (.reg [⟨(some 89), (.p (.bin 0 .eql (.t 9) (.c (.int .i64 (.lit 55))))), none⟩, ⟨(some 88), (.p (.mv (.t 89))), none⟩])
 (.cond (.t 88) (.seq (.reg [⟨(some 90), (.p (.mv (.t 1))), none⟩, ⟨(some 91), (.p (.mv (.t 2))), none⟩, ⟨(some 92), (.call (.f 75) [(.t 90), (.t 91), (.c (.bool (.lit true)))]), none⟩, ⟨(some 6), (.p (.mv (.t 92))), none⟩, ⟨(some 7), (.p (.mv (.c (.bool (.lit true))))), none⟩])
 .ret)
 (.seq (.reg [⟨(some 94), (.p (.bin 0 .eql (.t 9) (.c (.int .i64 (.lit 56))))), none⟩, ⟨(some 93), (.p (.mv (.t 94))), none⟩])
 (.cond (.t 93) (.seq (.reg [⟨(some 95), (.p (.mv (.t 1))), none⟩, ⟨(some 96), (.p (.mv (.t 2))), none⟩, ⟨(some 97), (.call (.f 75) [(.t 95), (.t 96), (.c (.bool (.lit false)))]), none⟩, ⟨(some 6), (.p (.mv (.t 97))), none⟩, ⟨(some 7), (.p (.mv (.c (.bool (.lit true))))), none⟩])
 .ret)
 (.seq (.reg [⟨(some 99), (.p (.bin 0 .eql (.t 9) (.c (.int .i64 (.lit 57))))), none⟩, ⟨(some 98), (.p (.mv (.t 99))), none⟩])
 (.cond (.t 98) (.seq (.reg [⟨(some 100), (.p (.mv (.t 1))), none⟩, ⟨(some 101), (.p (.mv (.t 2))), none⟩, ⟨(some 102), (.call (.f 76) [(.t 100), (.t 101), (.c (.bool (.lit true)))]), none⟩, ⟨(some 6), (.p (.mv (.t 102))), none⟩, ⟨(some 7), (.p (.mv (.c (.bool (.lit true))))), none⟩])
 .ret)
 (.seq (.reg [⟨(some 104), (.p (.bin 0 .eql (.t 9) (.c (.int .i64 (.lit 58))))), none⟩, ⟨(some 103), (.p (.mv (.t 104))), none⟩])
 (.cond (.t 103) (.seq (.reg [⟨(some 105), (.p (.mv (.t 1))), none⟩, ⟨(some 106), (.p (.mv (.t 2))), none⟩, ⟨(some 107), (.call (.f 76) [(.t 105), (.t 106), (.c (.bool (.lit false)))]), none⟩, ⟨(some 6), (.p (.mv (.t 107))), none⟩, ⟨(some 7), (.p (.mv (.c (.bool (.lit true))))), none⟩])
 .ret)
 .skip))))))))))))))))))))))))))))))))))))))
 (.seq (.reg [⟨(some 6), (.p (.mv (.c (.int .u32 (.lit 0))))), none⟩, ⟨(some 7), (.p (.mv (.c (.bool (.lit false))))), none⟩])
 .ret)))⟩
/- corral/corralref1.Taken -/
def af37 : AFunc := ⟨40, [.t 6, .t 7],
 (.seq (.reg [⟨(some 6), (.p (.mv (.c (.bool (.lit false))))), none⟩, ⟨(some 7), (.p (.mv (.c (.bool (.lit false))))), none⟩])
 (.seq (.seq (.reg [⟨(some 8), (.p (.mv (.t 0))), none⟩])
 (.block 0 (.seq (.reg [⟨(some 10), (.p (.bin 0 .eql (.t 8) (.c (.int .i64 (.lit 5))))), none⟩, ⟨(some 9), (.p (.mv (.t 10))), none⟩])
 (.cond (.t 9) (.seq (.reg [⟨(some 11), (.p (.mv (.t 1))), none⟩, ⟨(some 12), (.p (.mv (.t 2))), none⟩, ⟨(some 13), (.p (.bin 0 .eql (.t 11) (.t 12))), none⟩, ⟨(some 6), (.p (.mv (.t 13))), none⟩, ⟨(some 7), (.p (.mv (.c (.bool (.lit true))))), none⟩])
 .ret)
 (.seq (.reg [⟨(some 15), (.p (.bin 0 .eql (.t 8) (.c (.int .i64 (.lit 6))))), none⟩, ⟨(some 14), (.p (.mv (.t 15))), none⟩])
 (.cond (.t 14) (.seq (.reg [⟨(some 16), (.p (.mv (.t 1))), none⟩, ⟨(some 17), (.p (.mv (.t 2))), none⟩, ⟨(some 18), (.p (.bin 0 .neq (.t 16) (.t 17))), none⟩, ⟨(some 6), (.p (.mv (.t 18))), none⟩, ⟨(some 7), (.p (.mv (.c (.bool (.lit true))))), none⟩])
 .ret)
 (.seq (.reg [⟨(some 20), (.p (.bin 0 .eql (.t 8) (.c (.int .i64 (.lit 7))))), none⟩, ⟨(some 19), (.p (.mv (.t 20))), none⟩])
 (.cond (.t 19) (.seq (.reg [⟨(some 21), (.p (.mv (.t 1))), none⟩, ⟨(some 22), (.p (.mv (.t 2))), none⟩, ⟨(some 23), (.call (.f 72) [(.t 21), (.t 22), (.c (.bool (.lit true)))]), none⟩, ⟨(some 6), (.p (.mv (.t 23))), none⟩, ⟨(some 7), (.p (.mv (.c (.bool (.lit true))))), none⟩])
 .ret)
 (.seq (.reg [⟨(some 25), (.p (.bin 0 .eql (.t 8) (.c (.int .i64 (.lit 8))))), none⟩, ⟨(some 24), (.p (.mv (.t 25))), none⟩])
 (.cond (.t 24) (.seq (.reg [⟨(some 26), (.p (.mv (.t 1))), none⟩, ⟨(some 27), (.p (.mv (.t 2))), none⟩, ⟨(some 28), (.call (.f 72) [(.t 26), (.t 27), (.c (.bool (.lit true)))]), none⟩, ⟨(some 29), (.p (.un .not (.t 28))), none⟩, ⟨(some 6), (.p (.mv (.t 29))), none⟩, ⟨(some 7), (.p (.mv (.c (.bool (.lit true))))), none⟩])
 .ret)
 (.seq (.reg [⟨(some 31), (.p (.bin 0 .eql (.t 8) (.c (.int .i64 (.lit 9))))), none⟩, ⟨(some 30), (.p (.mv (.t 31))), none⟩])
 (.cond (.t 30) (.seq (.reg [⟨(some 32), (.p (.mv (.t 1))), none⟩, ⟨(some 33), (.p (.mv (.t 2))), none⟩, ⟨(some 34), (.p (.bin 0 .lss (.t 32) (.t 33))), none⟩, ⟨(some 6), (.p (.mv (.t 34))), none⟩, ⟨(some 7), (.p (.mv (.c (.bool (.lit true))))), none⟩])
 .ret)
 (.seq (.reg [⟨(some 36), (.p (.bin 0 .eql (.t 8) (.c (.int .i64 (.lit 10))))), none⟩, ⟨(some 35), (.p (.mv (.t 36))), none⟩])
 (.cond (.t 35) (.seq (.reg [⟨(some 37), (.p (.mv (.t 1))), none⟩, ⟨(some 38), (.p (.mv (.t 2))), none⟩, ⟨(some 39), (.p (.bin 0 .geq (.t 37) (.t 38))), none⟩, ⟨(some 6), (.p (.mv (.t 39))), none⟩, ⟨(some 7), (.p (.mv (.c (.bool (.lit true))))), none⟩])
 .ret)
 .skip))))))))))))))
 (.seq (.reg [⟨(some 6), (.p (.mv (.c (.bool (.lit false))))), none⟩, ⟨(some 7), (.p (.mv (.c (.bool (.lit false))))), none⟩])
 .ret)))⟩
/- corral/corralref1.Amo -/
def af38 : AFunc := ⟨56, [.t 6, .t 7],
 (.seq (.reg [⟨(some 6), (.p (.mv (.c (.int .u32 (.lit 0))))), none⟩, ⟨(some 7), (.p (.mv (.c (.bool (.lit false))))), none⟩])
 (.seq (.seq (.reg [⟨(some 8), (.p (.mv (.t 0))), none⟩])
 (.block 0 (.seq (.reg [⟨(some 10), (.p (.bin 0 .eql (.t 8) (.c (.int .i64 (.lit 61))))), none⟩, ⟨(some 9), (.p (.mv (.t 10))), none⟩])
 (.cond (.t 9) (.seq (.reg [⟨(some 11), (.p (.mv (.t 2))), none⟩, ⟨(some 6), (.p (.mv (.t 11))), none⟩, ⟨(some 7), (.p (.mv (.c (.bool (.lit true))))), none⟩])
 .ret)
 (.seq (.reg [⟨(some 13), (.p (.bin 0 .eql (.t 8) (.c (.int .i64 (.lit 62))))), none⟩, ⟨(some 12), (.p (.mv (.t 13))), none⟩])
 (.cond (.t 12) (.seq (.reg [⟨(some 14), (.p (.mv (.t 1))), none⟩, ⟨(some 15), (.p (.mv (.t 2))), none⟩, ⟨(some 16), (.p (.bin 0 .add (.t 14) (.t 15))), none⟩, ⟨(some 6), (.p (.mv (.t 16))), none⟩, ⟨(some 7), (.p (.mv (.c (.bool (.lit true))))), none⟩])
 .ret)
 (.seq (.reg [⟨(some 18), (.p (.bin 0 .eql (.t 8) (.c (.int .i64 (.lit 63))))), none⟩, ⟨(some 17), (.p (.mv (.t 18))), none⟩])
 (.cond (.t 17) (.seq (.reg [⟨(some 19), (.p (.mv (.t 1))), none⟩, ⟨(some 20), (.p (.mv (.t 2))), none⟩, ⟨(some 21), (.p (.bin 0 .xor (.t 19) (.t 20))), none⟩, ⟨(some 6), (.p (.mv (.t 21))), none⟩, ⟨(some 7), (.p (.mv (.c (.bool (.lit true))))), none⟩])
 .ret)
 (.seq (.reg [⟨(some 23), (.p (.bin 0 .eql (.t 8) (.c (.int .i64 (.lit 64))))), none⟩, ⟨(some 22), (.p (.mv (.t 23))), none⟩])
 (.cond (.t 22) (.seq (.reg [⟨(some 24), (.p (.mv (.t 1))), none⟩, ⟨(some 25), (.p (.mv (.t 2))), none⟩, ⟨(some 26), (.p (.bin 0 .and (.t 24) (.t 25))), none⟩, ⟨(some 6), (.p (.mv (.t 26))), none⟩, ⟨(some 7), (.p (.mv (.c (.bool (.lit true))))), none⟩])
 .ret)
 (.seq (.reg [⟨(some 28), (.p (.bin 0 .eql (.t 8) (.c (.int .i64 (.lit 65))))), none⟩, ⟨(some 27), (.p (.mv (.t 28))), none⟩])
 (.cond (.t 27) (.seq (.reg [⟨(some 29), (.p (.mv (.t 1))), none⟩, ⟨(some 30), (.p (.mv (.t 2))), none⟩, ⟨(some 31), (.p (.bin 0 .or (.t 29) (.t 30))), none⟩, ⟨(some 6), (.p (.mv (.t 31))), none⟩, ⟨(some 7), (.p (.mv (.c (.bool (.lit true))))), none⟩])
 .ret)
 (.seq (.reg [⟨(some 33), (.p (.bin 0 .eql (.t 8) (.c (.int .i64 (.lit 66))))), none⟩, ⟨(some 32), (.p (.mv (.t 33))), none⟩])
 (.cond (.t 32) (.seq (.seq (.reg [⟨(some 34), (.p (.mv (.t 2))), none⟩, ⟨(some 35), (.p (.mv (.t 1))), none⟩, ⟨(some 36), (.call (.f 72) [(.t 34), (.t 35), (.c (.bool (.lit true)))]), none⟩])
 (.cond (.t 36) (.seq (.reg [⟨(some 37), (.p (.mv (.t 2))), none⟩, ⟨(some 6), (.p (.mv (.t 37))), none⟩, ⟨(some 7), (.p (.mv (.c (.bool (.lit true))))), none⟩])
 .ret)
 .skip))
 (.seq (.reg [⟨(some 38), (.p (.mv (.t 1))), none⟩, ⟨(some 6), (.p (.mv (.t 38))), none⟩, ⟨(some 7), (.p (.mv (.c (.bool (.lit true))))), none⟩])
 .ret))
 (.seq (.reg [⟨(some 40), (.p (.bin 0 .eql (.t 8) (.c (.int .i64 (.lit 67))))), none⟩, ⟨(some 39), (.p (.mv (.t 40))), none⟩])
 (.cond (.t 39) (.seq (.seq (.reg [⟨(some 41), (.p (.mv (.t 1))), none⟩, ⟨(some 42), (.p (.mv (.t 2))), none⟩, ⟨(some 43), (.call (.f 72) [(.t 41), (.t 42), (.c (.bool (.lit true)))]), none⟩])
 (.cond (.t 43) (.seq (.reg [⟨(some 44), (.p (.mv (.t 2))), none⟩, ⟨(some 6), (.p (.mv (.t 44))), none⟩, ⟨(some 7), (.p (.mv (.c (.bool (.lit true))))), none⟩])
 .ret)
 .skip))
 (.seq (.reg [⟨(some 45), (.p (.mv (.t 1))), none⟩, ⟨(some 6), (.p (.mv (.t 45))), none⟩, ⟨(some 7), (.p (.mv (.c (.bool (.lit true))))), none⟩])
 .ret))
 (.seq (.reg [⟨(some 47), (.p (.bin 0 .eql (.t 8) (.c (.int .i64 (.lit 68))))), none⟩, ⟨(some 46), (.p (.mv (.t 47))), none⟩])
 (.cond (.t 46) (.seq (.reg [⟨(some 48), (.p (.mv (.t 1))), none⟩, ⟨(some 49), (.p (.mv (.t 2))), none⟩, ⟨(some 50), (.p (.mn (.t 48) (.t 49))), none⟩, ⟨(some 6), (.p (.mv (.t 50))), none⟩, ⟨(some 7), (.p (.mv (.c (.bool (.lit true))))), none⟩])
 .ret)
 (.seq (.reg [⟨(some 52), (.p (.bin 0 .eql (.t 8) (.c (.int .i64 (.lit 69))))), none⟩, ⟨(some 51), (.p (.mv (.t 52))), none⟩])
 (.cond (.t 51) (.seq (.reg [⟨(some 53), (.p (.mv (.t 1))), none⟩, ⟨(some 54), (.p (.mv (.t 2))), none⟩, ⟨(some 55), (.p (.mx (.t 53) (.t 54))), none⟩, ⟨(some 6), (.p (.mv (.t 55))), none⟩, ⟨(some 7), (.p (.mv (.c (.bool (.lit true))))), none⟩])
 .ret)
 .skip))))))))))))))))))))
 (.seq (.reg [⟨(some 6), (.p (.mv (.c (.int .u32 (.lit 0))))), none⟩, ⟨(some 7), (.p (.mv (.c (.bool (.lit false))))), none⟩])
 .ret)))⟩
/- corral/alu.Size -/
def af39 : AFunc := ⟨19, [.t 2],
 (.seq (.reg [⟨(some 2), (.p (.mv (.c (.int .i64 (.lit 0))))), none⟩])
 (.seq (.seq (.reg [⟨(some 3), (.p (.mv (.t 0))), none⟩])
 (.block 0 (.seq (.seq (.reg [⟨(some 5), (.p (.bin 0 .eql (.t 3) (.c (.int .i64 (.lit 11))))), none⟩, ⟨(some 4), (.p (.mv (.t 5))), none⟩])
 (.cond (.t 4) .skip
 (.seq (.reg [⟨(some 6), (.p (.bin 0 .eql (.t 3) (.c (.int .i64 (.lit 14))))), none⟩, ⟨(some 4), (.p (.mv (.t 6))), none⟩])
 (.cond (.t 4) .skip
 (.reg [⟨(some 7), (.p (.bin 0 .eql (.t 3) (.c (.int .i64 (.lit 16))))), none⟩, ⟨(some 4), (.p (.mv (.t 7))), none⟩])))))
 (.cond (.t 4) (.seq (.reg [⟨(some 2), (.p (.mv (.c (.int .i64 (.lit 1))))), none⟩])
 .ret)
 (.seq (.seq (.reg [⟨(some 9), (.p (.bin 0 .eql (.t 3) (.c (.int .i64 (.lit 12))))), none⟩, ⟨(some 8), (.p (.mv (.t 9))), none⟩])
 (.cond (.t 8) .skip
 (.seq (.reg [⟨(some 10), (.p (.bin 0 .eql (.t 3) (.c (.int .i64 (.lit 15))))), none⟩, ⟨(some 8), (.p (.mv (.t 10))), none⟩])
 (.cond (.t 8) .skip
 (.reg [⟨(some 11), (.p (.bin 0 .eql (.t 3) (.c (.int .i64 (.lit 17))))), none⟩, ⟨(some 8), (.p (.mv (.t 11))), none⟩])))))
 (.cond (.t 8) (.seq (.reg [⟨(some 2), (.p (.mv (.c (.int .i64 (.lit 2))))), none⟩])
 .ret)
 (.seq (.seq (.reg [⟨(some 13), (.p (.bin 0 .eql (.t 3) (.c (.int .i64 (.lit 13))))), none⟩, ⟨(some 12), (.p (.mv (.t 13))), none⟩])
 (.cond (.t 12) .skip
 (.seq (.reg [⟨(some 14), (.p (.bin 0 .eql (.t 3) (.c (.int .i64 (.lit 18))))), none⟩, ⟨(some 12), (.p (.mv (.t 14))), none⟩])
 (.cond (.t 12) .skip
 (.reg [⟨(some 15), (.p (.bin 0 .eql (.t 3) (.c (.int .i64 (.lit 59))))), none⟩, ⟨(some 12), (.p (.mv (.t 15))), none⟩])))))
 (.cond (.t 12) (.seq (.reg [⟨(some 2), (.p (.mv (.c (.int .i64 (.lit 4))))), none⟩])
 .ret)
 .skip))))))))
 (.seq (.seq (.reg [⟨(some 16), (.p (.mv (.t 0))), none⟩, ⟨(some 17), (.call (.f 66) [(.t 16)]), none⟩, ⟨(some 18), (.p (.bin 0 .eql (.t 17) (.c (.int .i64 (.lit 6))))), none⟩])
 (.cond (.t 18) (.seq (.reg [⟨(some 2), (.p (.mv (.c (.int .i64 (.lit 4))))), none⟩])
 .ret)
 .skip))
 (.seq (.reg [⟨(some 2), (.p (.mv (.c (.int .i64 (.lit 0))))), none⟩])
 .ret))))⟩
/- corral/corralref1.Size -/
def af40 : AFunc := ⟨21, [.t 2],
 (.seq (.reg [⟨(some 2), (.p (.mv (.c (.int .i64 (.lit 0))))), none⟩])
 (.seq (.seq (.reg [⟨(some 3), (.p (.mv (.t 0))), none⟩])
 (.block 0 (.seq (.seq (.reg [⟨(some 5), (.p (.bin 0 .eql (.t 3) (.c (.int .i64 (.lit 11))))), none⟩, ⟨(some 4), (.p (.mv (.t 5))), none⟩])
 (.cond (.t 4) .skip
 (.seq (.reg [⟨(some 6), (.p (.bin 0 .eql (.t 3) (.c (.int .i64 (.lit 14))))), none⟩, ⟨(some 4), (.p (.mv (.t 6))), none⟩])
 (.cond (.t 4) .skip
 (.reg [⟨(some 7), (.p (.bin 0 .eql (.t 3) (.c (.int .i64 (.lit 16))))), none⟩, ⟨(some 4), (.p (.mv (.t 7))), none⟩])))))
 (.cond (.t 4) (.seq (.reg [⟨(some 2), (.p (.mv (.c (.int .i64 (.lit 1))))), none⟩])
 .ret)
 (.seq (.seq (.reg [⟨(some 9), (.p (.bin 0 .eql (.t 3) (.c (.int .i64 (.lit 12))))), none⟩, ⟨(some 8), (.p (.mv (.t 9))), none⟩])
 (.cond (.t 8) .skip
 (.seq (.reg [⟨(some 10), (.p (.bin 0 .eql (.t 3) (.c (.int .i64 (.lit 15))))), none⟩, ⟨(some 8), (.p (.mv (.t 10))), none⟩])
 (.cond (.t 8) .skip
 (.reg [⟨(some 11), (.p (.bin 0 .eql (.t 3) (.c (.int .i64 (.lit 17))))), none⟩, ⟨(some 8), (.p (.mv (.t 11))), none⟩])))))
 (.cond (.t 8) (.seq (.reg [⟨(some 2), (.p (.mv (.c (.int .i64 (.lit 2))))), none⟩])
 .ret)
 (.seq (.seq (.reg [⟨(some 13), (.p (.bin 0 .eql (.t 3) (.c (.int .i64 (.lit 13))))), none⟩, ⟨(some 12), (.p (.mv (.t 13))), none⟩])
 (.cond (.t 12) .skip
 (.reg [⟨(some 14), (.p (.bin 0 .eql (.t 3) (.c (.int .i64 (.lit 18))))), none⟩, ⟨(some 12), (.p (.mv (.t 14))), none⟩])))
 (.cond (.t 12) (.seq (.reg [⟨(some 2), (.p (.mv (.c (.int .i64 (.lit 4))))), none⟩])
 .ret)
 .skip))))))))
 (.seq (.seq (.reg [⟨(some 15), (.p (.mv (.t 0))), none⟩, ⟨(some 16), (.p (.bin 0 .geq (.t 15) (.c (.int .i64 (.lit 59))))), none⟩, ⟨(some 17), (.p (.mv (.t 16))), none⟩, ⟨(some 18), (.p (.mv (.t 0))), (some (17, true))⟩, ⟨(some 19), (.p (.bin 0 .leq (.t 18) (.c (.int .i64 (.lit 69))))), (some (17, true))⟩, ⟨(some 20), (.pick (.t 17) (.t 19) (.c (.bool (.lit false)))), none⟩])
 (.cond (.t 20) (.seq (.reg [⟨(some 2), (.p (.mv (.c (.int .i64 (.lit 4))))), none⟩])
 .ret)
 .skip))
 (.seq (.reg [⟨(some 2), (.p (.mv (.c (.int .i64 (.lit 0))))), none⟩])
 .ret))))⟩
/- corral/corralref1.Extend -/
def af41 : AFunc := ⟨29, [.t 4],
 (.seq (.reg [⟨(some 4), (.p (.mv (.c (.int .u32 (.lit 0))))), none⟩])
 (.seq (.seq (.reg [⟨(some 5), (.p (.mv (.t 0))), none⟩])
 (.block 0 (.seq (.reg [⟨(some 7), (.p (.bin 0 .eql (.t 5) (.c (.int .i64 (.lit 11))))), none⟩, ⟨(some 6), (.p (.mv (.t 7))), none⟩])
 (.cond (.t 6) (.seq (.reg [⟨(some 8), (.p (.mv (.t 1))), none⟩, ⟨(some 9), (.call (.f 77) [(.t 8), (.c (.int .i64 (.lit 8)))]), none⟩, ⟨(some 4), (.p (.mv (.t 9))), none⟩])
 .ret)
 (.seq (.reg [⟨(some 11), (.p (.bin 0 .eql (.t 5) (.c (.int .i64 (.lit 12))))), none⟩, ⟨(some 10), (.p (.mv (.t 11))), none⟩])
 (.cond (.t 10) (.seq (.reg [⟨(some 12), (.p (.mv (.t 1))), none⟩, ⟨(some 13), (.call (.f 77) [(.t 12), (.c (.int .i64 (.lit 16)))]), none⟩, ⟨(some 4), (.p (.mv (.t 13))), none⟩])
 .ret)
 .skip))))))
 (.seq (.seq (.reg [⟨(some 14), (.p (.mv (.t 0))), none⟩, ⟨(some 15), (.call (.f 78) [(.t 14)]), none⟩, ⟨(some 16), (.p (.bin 0 .eql (.t 15) (.c (.int .i64 (.lit 4))))), none⟩, ⟨(some 17), (.p (.mv (.t 16))), none⟩, ⟨(some 18), (.p (.mv (.t 0))), (some (17, false))⟩, ⟨(some 19), (.p (.bin 0 .geq (.t 18) (.c (.int .i64 (.lit 61))))), (some (17, false))⟩, ⟨(some 20), (.p (.mv (.t 19))), (some (17, false))⟩, ⟨(some 21), (.p (.mv (.t 0))), (some (20, true))⟩, ⟨(some 22), (.p (.bin 0 .leq (.t 21) (.c (.int .i64 (.lit 69))))), (some (20, true))⟩, ⟨(some 23), (.pick (.t 20) (.t 22) (.c (.bool (.lit false)))), (some (17, false))⟩, ⟨(some 24), (.pick (.t 17) (.c (.bool (.lit true))) (.t 23)), none⟩])
 (.cond (.t 24) (.seq (.reg [⟨(some 25), (.p (.mv (.t 1))), none⟩, ⟨(some 26), (.p (.mv (.t 0))), none⟩, ⟨(some 27), (.call (.f 40) [(.t 26)]), none⟩, ⟨(some 28), (.call (.f 79) [(.t 25), (.t 27)]), none⟩, ⟨(some 4), (.p (.mv (.t 28))), none⟩])
 .ret)
 .skip))
 (.seq (.reg [⟨(some 4), (.p (.mv (.c (.int .u32 (.lit 0))))), none⟩])
 .ret))))⟩
/- corral/corralref1.Cut -/
def af42 : AFunc := ⟨16, [.t 4],
 (.seq (.reg [⟨(some 4), (.p (.mv (.c (.int .u32 (.lit 0))))), none⟩])
 (.seq (.seq (.reg [⟨(some 5), (.p (.mv (.t 0))), none⟩, ⟨(some 6), (.call (.f 78) [(.t 5)]), none⟩, ⟨(some 7), (.p (.bin 0 .eql (.t 6) (.c (.int .i64 (.lit 5))))), none⟩, ⟨(some 8), (.p (.mv (.t 7))), none⟩, ⟨(some 9), (.p (.mv (.t 0))), (some (8, false))⟩, ⟨(some 10), (.p (.bin 0 .eql (.t 9) (.c (.int .i64 (.lit 60))))), (some (8, false))⟩, ⟨(some 11), (.pick (.t 8) (.c (.bool (.lit true))) (.t 10)), none⟩])
 (.cond (.t 11) (.seq (.reg [⟨(some 12), (.p (.mv (.t 1))), none⟩, ⟨(some 13), (.p (.mv (.t 0))), none⟩, ⟨(some 14), (.call (.f 40) [(.t 13)]), none⟩, ⟨(some 15), (.call (.f 79) [(.t 12), (.t 14)]), none⟩, ⟨(some 4), (.p (.mv (.t 15))), none⟩])
 .ret)
 .skip))
 (.seq (.reg [⟨(some 4), (.p (.mv (.c (.int .u32 (.lit 0))))), none⟩])
 .ret)))⟩
/- corral/word.Left -/
def af58 : AFunc := ⟨9, [.t 4],
 (.seq (.reg [⟨(some 4), (.p (.mv (.c (.int .u32 (.lit 0))))), none⟩])
 (.seq (.reg [⟨(some 5), (.p (.mv (.t 0))), none⟩, ⟨(some 6), (.p (.mv (.t 1))), none⟩, ⟨(some 7), (.p (.bin 0 .and (.t 6) (.c (.int .i64 (.lit 31))))), none⟩, ⟨(some 8), (.p (.bin 0 .shl (.t 5) (.t 7))), none⟩, ⟨(some 4), (.p (.mv (.t 8))), none⟩])
 .ret))⟩
/- corral/alu.truth -/
def af59 : AFunc := ⟨4, [.t 2],
 (.seq (.reg [⟨(some 2), (.p (.mv (.c (.int .u32 (.lit 0))))), none⟩])
 (.seq (.seq (.reg [⟨(some 3), (.p (.mv (.t 0))), none⟩])
 (.cond (.t 3) (.seq (.reg [⟨(some 2), (.p (.mv (.c (.int .u32 (.lit 1))))), none⟩])
 .ret)
 .skip))
 (.seq (.reg [⟨(some 2), (.p (.mv (.c (.int .u32 (.lit 0))))), none⟩])
 .ret)))⟩
/- corral/word.Less -/
def af60 : AFunc := ⟨16, [.t 6],
 (.seq (.reg [⟨(some 6), (.p (.mv (.c (.bool (.lit false))))), none⟩])
 (.seq (.seq (.reg [⟨(some 7), (.p (.mv (.t 2))), none⟩])
 (.cond (.t 7) (.seq (.reg [⟨(some 8), (.p (.mv (.t 0))), none⟩, ⟨(some 9), (.p (.conv .i32 (.t 8))), none⟩, ⟨(some 10), (.p (.mv (.t 1))), none⟩, ⟨(some 11), (.p (.conv .i32 (.t 10))), none⟩, ⟨(some 12), (.p (.bin 0 .lss (.t 9) (.t 11))), none⟩, ⟨(some 6), (.p (.mv (.t 12))), none⟩])
 .ret)
 .skip))
 (.seq (.reg [⟨(some 13), (.p (.mv (.t 0))), none⟩, ⟨(some 14), (.p (.mv (.t 1))), none⟩, ⟨(some 15), (.p (.bin 0 .lss (.t 13) (.t 14))), none⟩, ⟨(some 6), (.p (.mv (.t 15))), none⟩])
 .ret)))⟩
/- corral/word.Right -/
def af61 : AFunc := ⟨18, [.t 6],
 (.seq (.reg [⟨(some 6), (.p (.mv (.c (.int .u32 (.lit 0))))), none⟩])
 (.seq (.seq (.reg [⟨(some 7), (.p (.mv (.t 2))), none⟩])
 (.cond (.t 7) (.seq (.reg [⟨(some 8), (.p (.mv (.t 0))), none⟩, ⟨(some 9), (.p (.conv .i32 (.t 8))), none⟩, ⟨(some 10), (.p (.mv (.t 1))), none⟩, ⟨(some 11), (.p (.bin 0 .and (.t 10) (.c (.int .i64 (.lit 31))))), none⟩, ⟨(some 12), (.p (.bin 0 .shr (.t 9) (.t 11))), none⟩, ⟨(some 13), (.p (.conv .u32 (.t 12))), none⟩, ⟨(some 6), (.p (.mv (.t 13))), none⟩])
 .ret)
 .skip))
 (.seq (.reg [⟨(some 14), (.p (.mv (.t 0))), none⟩, ⟨(some 15), (.p (.mv (.t 1))), none⟩, ⟨(some 16), (.p (.bin 0 .and (.t 15) (.c (.int .i64 (.lit 31))))), none⟩, ⟨(some 17), (.p (.bin 0 .shr (.t 14) (.t 16))), none⟩, ⟨(some 6), (.p (.mv (.t 17))), none⟩])
 .ret)))⟩
/- corral/word.High -/
def af62 : AFunc := ⟨18, [.t 8],
 (.seq (.reg [⟨(some 8), (.p (.mv (.c (.int .u32 (.lit 0))))), none⟩])
 (.seq (.reg [⟨(some 9), (.p (.mv (.t 0))), none⟩, ⟨(some 10), (.p (.mv (.t 2))), none⟩, ⟨(some 11), (.call (.f 82) [(.t 9), (.t 10)]), none⟩, ⟨(some 12), (.p (.mv (.t 1))), none⟩, ⟨(some 13), (.p (.mv (.t 3))), none⟩, ⟨(some 14), (.call (.f 82) [(.t 12), (.t 13)]), none⟩, ⟨(some 15), (.p (.bin 0 .mul (.t 11) (.t 14))), none⟩, ⟨(some 16), (.p (.bin 0 .shr (.t 15) (.c (.int .u64 (.lit 32))))), none⟩, ⟨(some 17), (.p (.conv .u32 (.t 16))), none⟩, ⟨(some 8), (.p (.mv (.t 17))), none⟩])
 .ret))⟩
/- corral/word.Div -/
def af63 : AFunc := ⟨29, [.t 6],
 (.seq (.reg [⟨(some 6), (.p (.mv (.c (.int .u32 (.lit 0))))), none⟩])
 (.seq (.block 0 (.seq (.reg [⟨(some 8), (.p (.mv (.t 1))), none⟩, ⟨(some 9), (.p (.bin 0 .eql (.t 8) (.c (.int .u32 (.lit 0))))), none⟩, ⟨(some 7), (.p (.mv (.t 9))), none⟩])
 (.cond (.t 7) (.seq (.reg [⟨(some 6), (.p (.mv (.c (.int .u32 (.lit 4294967295))))), none⟩])
 .ret)
 (.seq (.reg [⟨(some 11), (.p (.mv (.t 2))), none⟩, ⟨(some 12), (.p (.mv (.t 11))), none⟩, ⟨(some 13), (.p (.mv (.t 1))), (some (12, true))⟩, ⟨(some 14), (.p (.bin 0 .eql (.t 13) (.c (.int .u32 (.lit 4294967295))))), (some (12, true))⟩, ⟨(some 15), (.pick (.t 12) (.t 14) (.c (.bool (.lit false)))), none⟩, ⟨(some 10), (.p (.mv (.t 15))), none⟩])
 (.cond (.t 10) (.seq (.reg [⟨(some 16), (.p (.mv (.t 0))), none⟩, ⟨(some 17), (.p (.un .neg (.t 16))), none⟩, ⟨(some 6), (.p (.mv (.t 17))), none⟩])
 .ret)
 (.seq (.reg [⟨(some 19), (.p (.mv (.t 2))), none⟩, ⟨(some 18), (.p (.mv (.t 19))), none⟩])
 (.cond (.t 18) (.seq (.reg [⟨(some 20), (.p (.mv (.t 0))), none⟩, ⟨(some 21), (.p (.conv .i32 (.t 20))), none⟩, ⟨(some 22), (.p (.mv (.t 1))), none⟩, ⟨(some 23), (.p (.conv .i32 (.t 22))), none⟩, ⟨(some 24), (.p (.bin 0 .quo (.t 21) (.t 23))), none⟩, ⟨(some 25), (.p (.conv .u32 (.t 24))), none⟩, ⟨(some 6), (.p (.mv (.t 25))), none⟩])
 .ret)
 .skip)))))))
 (.seq (.reg [⟨(some 26), (.p (.mv (.t 0))), none⟩, ⟨(some 27), (.p (.mv (.t 1))), none⟩, ⟨(some 28), (.p (.bin 0 .quo (.t 26) (.t 27))), none⟩, ⟨(some 6), (.p (.mv (.t 28))), none⟩])
 .ret)))⟩
/- corral/word.Rem -/
def af64 : AFunc := ⟨28, [.t 6],
 (.seq (.reg [⟨(some 6), (.p (.mv (.c (.int .u32 (.lit 0))))), none⟩])
 (.seq (.block 0 (.seq (.reg [⟨(some 8), (.p (.mv (.t 1))), none⟩, ⟨(some 9), (.p (.bin 0 .eql (.t 8) (.c (.int .u32 (.lit 0))))), none⟩, ⟨(some 7), (.p (.mv (.t 9))), none⟩])
 (.cond (.t 7) (.seq (.reg [⟨(some 10), (.p (.mv (.t 0))), none⟩, ⟨(some 6), (.p (.mv (.t 10))), none⟩])
 .ret)
 (.seq (.reg [⟨(some 12), (.p (.mv (.t 2))), none⟩, ⟨(some 13), (.p (.mv (.t 12))), none⟩, ⟨(some 14), (.p (.mv (.t 1))), (some (13, true))⟩, ⟨(some 15), (.p (.bin 0 .eql (.t 14) (.c (.int .u32 (.lit 4294967295))))), (some (13, true))⟩, ⟨(some 16), (.pick (.t 13) (.t 15) (.c (.bool (.lit false)))), none⟩, ⟨(some 11), (.p (.mv (.t 16))), none⟩])
 (.cond (.t 11) (.seq (.reg [⟨(some 6), (.p (.mv (.c (.int .u32 (.lit 0))))), none⟩])
 .ret)
 (.seq (.reg [⟨(some 18), (.p (.mv (.t 2))), none⟩, ⟨(some 17), (.p (.mv (.t 18))), none⟩])
 (.cond (.t 17) (.seq (.reg [⟨(some 19), (.p (.mv (.t 0))), none⟩, ⟨(some 20), (.p (.conv .i32 (.t 19))), none⟩, ⟨(some 21), (.p (.mv (.t 1))), none⟩, ⟨(some 22), (.p (.conv .i32 (.t 21))), none⟩, ⟨(some 23), (.p (.bin 0 .rem (.t 20) (.t 22))), none⟩, ⟨(some 24), (.p (.conv .u32 (.t 23))), none⟩, ⟨(some 6), (.p (.mv (.t 24))), none⟩])
 .ret)
 .skip)))))))
 (.seq (.reg [⟨(some 25), (.p (.mv (.t 0))), none⟩, ⟨(some 26), (.p (.mv (.t 1))), none⟩, ⟨(some 27), (.p (.bin 0 .rem (.t 25) (.t 26))), none⟩, ⟨(some 6), (.p (.mv (.t 27))), none⟩])
 .ret)))⟩
/- corral/alu.Amo$1 -/
def af65 : AFunc := ⟨9, [.t 4, .t 5],
 (.seq (.reg [⟨(some 4), (.p (.mv (.c (.int .u32 (.lit 0))))), none⟩, ⟨(some 5), (.p (.mv (.c (.bool (.lit false))))), none⟩])
 (.seq (.seq (.reg [⟨(some 6), (.p (.mv (.t 0))), none⟩])
 (.cond (.t 6) (.seq (.reg [⟨(some 7), (.load false 1 (.t 1)), none⟩, ⟨(some 4), (.p (.mv (.t 7))), none⟩, ⟨(some 5), (.p (.mv (.c (.bool (.lit true))))), none⟩])
 .ret)
 .skip))
 (.seq (.reg [⟨(some 8), (.load false 1 (.t 2)), none⟩, ⟨(some 4), (.p (.mv (.t 8))), none⟩, ⟨(some 5), (.p (.mv (.c (.bool (.lit true))))), none⟩])
 .ret)))⟩
/- corral/isa.Kind -/
def af66 : AFunc := ⟨12, [.t 2],
 (.seq (.reg [⟨(some 2), (.p (.mv (.c (.int .i64 (.lit 0))))), none⟩])
 (.seq (.reg [⟨(some 6), (.p (.mv (.t 0))), none⟩, ⟨(some 7), (.call (.f 83) [(.t 6)]), none⟩, ⟨(some 5), (.p (.mv (.t 7))), none⟩, ⟨(some 8), (.p (.extract 0 (.t 5))), none⟩, ⟨(some 9), (.p (.extract 1 (.t 5))), none⟩, ⟨(some 3), (.newC [(.int .i64 (.lit 0)), (.str ⟨#[]⟩), (.int .i64 (.lit 0)), (.int .u32 (.lit 0)), (.int .u32 (.lit 0)), (.int .u32 (.lit 0)), (.int .i64 (.lit 0))]), none⟩, ⟨none, (.store 7 (.t 3) (.t 8)), none⟩, ⟨(some 4), (.p (.mv (.t 9))), none⟩])
 (.seq (.reg [⟨(some 10), (.p (.fieldAddr 6 (.t 3))), none⟩, ⟨(some 11), (.load false 1 (.t 10)), none⟩, ⟨(some 2), (.p (.mv (.t 11))), none⟩])
 .ret)))⟩
/- corral/word.Bits -/
def af67 : AFunc := ⟨23, [.t 6],
 (.seq (.reg [⟨(some 6), (.p (.mv (.c (.int .u32 (.lit 0))))), none⟩])
 (.seq (.seq (.reg [⟨(some 7), (.p (.mv (.t 1))), none⟩, ⟨(some 8), (.p (.bin 0 .lss (.t 7) (.c (.int .i64 (.lit 0))))), none⟩, ⟨(some 9), (.p (.mv (.t 8))), none⟩, ⟨(some 10), (.p (.mv (.t 1))), (some (9, false))⟩, ⟨(some 11), (.p (.bin 0 .geq (.t 10) (.c (.int .i64 (.lit 32))))), (some (9, false))⟩, ⟨(some 12), (.pick (.t 9) (.c (.bool (.lit true))) (.t 11)), none⟩, ⟨(some 13), (.p (.mv (.t 12))), none⟩, ⟨(some 14), (.p (.mv (.t 2))), (some (13, false))⟩, ⟨(some 15), (.p (.bin 0 .lss (.t 14) (.c (.int .i64 (.lit 1))))), (some (13, false))⟩, ⟨(some 16), (.pick (.t 13) (.c (.bool (.lit true))) (.t 15)), none⟩])
 (.cond (.t 16) (.seq (.reg [⟨(some 6), (.p (.mv (.c (.int .u32 (.lit 0))))), none⟩])
 .ret)
 .skip))
 (.seq (.draw [(⟨(some 17), (.p (.mv (.t 0))), none⟩, []), (⟨(some 18), (.p (.mv (.t 1))), none⟩, []), (⟨(some 19), (.p (.bin 0 .shr (.t 17) (.t 18))), none⟩, []), (⟨(some 20), (.p (.mv (.t 2))), none⟩, []), (⟨(some 21), (.call (.f 84) [(.t 20)]), none⟩, []), (⟨(some 22), (.p (.bin 0 .and (.t 19) (.t 21))), none⟩, []), (⟨(some 6), (.p (.mv (.t 22))), none⟩, [])])
 .ret)))⟩
/- corral/alu.loads -/
def af68 : AFunc := ⟨16, [.t 2],
 (.seq (.reg [⟨(some 2), (.p (.mv (.c (.bool (.lit false))))), none⟩])
 (.seq (.reg [⟨(some 4), (.p (.mv (.t 0))), none⟩, ⟨(some 5), (.call (.f 66) [(.t 4)]), none⟩, ⟨(some 3), (.p (.mv (.t 5))), none⟩])
 (.seq (.reg [⟨(some 6), (.p (.mv (.t 3))), none⟩, ⟨(some 7), (.p (.bin 0 .eql (.t 6) (.c (.int .i64 (.lit 4))))), none⟩, ⟨(some 8), (.p (.mv (.t 7))), none⟩, ⟨(some 9), (.p (.mv (.t 3))), (some (8, false))⟩, ⟨(some 10), (.p (.bin 0 .eql (.t 9) (.c (.int .i64 (.lit 6))))), (some (8, false))⟩, ⟨(some 11), (.p (.mv (.t 10))), (some (8, false))⟩, ⟨(some 12), (.p (.mv (.t 0))), (some (11, true))⟩, ⟨(some 13), (.p (.bin 0 .neq (.t 12) (.c (.int .i64 (.lit 60))))), (some (11, true))⟩, ⟨(some 14), (.pick (.t 11) (.t 13) (.c (.bool (.lit false)))), (some (8, false))⟩, ⟨(some 15), (.pick (.t 8) (.c (.bool (.lit true))) (.t 14)), none⟩, ⟨(some 2), (.p (.mv (.t 15))), none⟩])
 .ret)))⟩
/- corral/word.Sign -/
def af69 : AFunc := ⟨21, [.t 4],
 (.seq (.reg [⟨(some 4), (.p (.mv (.c (.int .u32 (.lit 0))))), none⟩])
 (.seq (.block 0 (.seq (.reg [⟨(some 6), (.p (.mv (.t 1))), none⟩, ⟨(some 7), (.p (.bin 0 .lss (.t 6) (.c (.int .i64 (.lit 1))))), none⟩, ⟨(some 5), (.p (.mv (.t 7))), none⟩])
 (.cond (.t 5) (.seq (.reg [⟨(some 4), (.p (.mv (.c (.int .u32 (.lit 0))))), none⟩])
 .ret)
 (.seq (.reg [⟨(some 9), (.p (.mv (.t 1))), none⟩, ⟨(some 10), (.p (.bin 0 .geq (.t 9) (.c (.int .i64 (.lit 32))))), none⟩, ⟨(some 8), (.p (.mv (.t 10))), none⟩])
 (.cond (.t 8) (.seq (.reg [⟨(some 11), (.p (.mv (.t 0))), none⟩, ⟨(some 4), (.p (.mv (.t 11))), none⟩])
 .ret)
 .skip)))))
 (.seq (.reg [⟨(some 12), (.p (.mv (.t 0))), none⟩, ⟨(some 13), (.p (.mv (.t 1))), none⟩, ⟨(some 14), (.p (.bin 0 .sub (.c (.int .i64 (.lit 32))) (.t 13))), none⟩, ⟨(some 15), (.p (.bin 0 .shl (.t 12) (.t 14))), none⟩, ⟨(some 16), (.p (.conv .i32 (.t 15))), none⟩, ⟨(some 17), (.p (.mv (.t 1))), none⟩, ⟨(some 18), (.p (.bin 0 .sub (.c (.int .i64 (.lit 32))) (.t 17))), none⟩, ⟨(some 19), (.p (.bin 0 .shr (.t 16) (.t 18))), none⟩, ⟨(some 20), (.p (.conv .u32 (.t 19))), none⟩, ⟨(some 4), (.p (.mv (.t 20))), none⟩])
 .ret)))⟩
/- corral/corralref1.plain -/
def af70 : AFunc := ⟨23, [.t 2],
 (.seq (.reg [⟨(some 2), (.p (.mv (.c (.int .i64 (.lit 0))))), none⟩])
 (.seq (.seq (.reg [⟨(some 3), (.p (.mv (.t 0))), none⟩])
 (.block 0 (.seq (.reg [⟨(some 5), (.p (.bin 0 .eql (.t 3) (.c (.int .i64 (.lit 19))))), none⟩, ⟨(some 4), (.p (.mv (.t 5))), none⟩])
 (.cond (.t 4) (.seq (.reg [⟨(some 2), (.p (.mv (.c (.int .i64 (.lit 28))))), none⟩])
 .ret)
 (.seq (.reg [⟨(some 7), (.p (.bin 0 .eql (.t 3) (.c (.int .i64 (.lit 20))))), none⟩, ⟨(some 6), (.p (.mv (.t 7))), none⟩])
 (.cond (.t 6) (.seq (.reg [⟨(some 2), (.p (.mv (.c (.int .i64 (.lit 31))))), none⟩])
 .ret)
 (.seq (.reg [⟨(some 9), (.p (.bin 0 .eql (.t 3) (.c (.int .i64 (.lit 21))))), none⟩, ⟨(some 8), (.p (.mv (.t 9))), none⟩])
 (.cond (.t 8) (.seq (.reg [⟨(some 2), (.p (.mv (.c (.int .i64 (.lit 32))))), none⟩])
 .ret)
 (.seq (.reg [⟨(some 11), (.p (.bin 0 .eql (.t 3) (.c (.int .i64 (.lit 22))))), none⟩, ⟨(some 10), (.p (.mv (.t 11))), none⟩])
 (.cond (.t 10) (.seq (.reg [⟨(some 2), (.p (.mv (.c (.int .i64 (.lit 33))))), none⟩])
 .ret)
 (.seq (.reg [⟨(some 13), (.p (.bin 0 .eql (.t 3) (.c (.int .i64 (.lit 23))))), none⟩, ⟨(some 12), (.p (.mv (.t 13))), none⟩])
 (.cond (.t 12) (.seq (.reg [⟨(some 2), (.p (.mv (.c (.int .i64 (.lit 36))))), none⟩])
 .ret)
 (.seq (.reg [⟨(some 15), (.p (.bin 0 .eql (.t 3) (.c (.int .i64 (.lit 24))))), none⟩, ⟨(some 14), (.p (.mv (.t 15))), none⟩])
 (.cond (.t 14) (.seq (.reg [⟨(some 2), (.p (.mv (.c (.int .i64 (.lit 37))))), none⟩])
 .ret)
 (.seq (.reg [⟨(some 17), (.p (.bin 0 .eql (.t 3) (.c (.int .i64 (.lit 25))))), none⟩, ⟨(some 16), (.p (.mv (.t 17))), none⟩])
 (.cond (.t 16) (.seq (.reg [⟨(some 2), (.p (.mv (.c (.int .i64 (.lit 30))))), none⟩])
 .ret)
 (.seq (.reg [⟨(some 19), (.p (.bin 0 .eql (.t 3) (.c (.int .i64 (.lit 26))))), none⟩, ⟨(some 18), (.p (.mv (.t 19))), none⟩])
 (.cond (.t 18) (.seq (.reg [⟨(some 2), (.p (.mv (.c (.int .i64 (.lit 34))))), none⟩])
 .ret)
 (.seq (.reg [⟨(some 21), (.p (.bin 0 .eql (.t 3) (.c (.int .i64 (.lit 27))))), none⟩, ⟨(some 20), (.p (.mv (.t 21))), none⟩])
 (.cond (.t 20) (.seq (.reg [⟨(some 2), (.p (.mv (.c (.int .i64 (.lit 35))))), none⟩])
 .ret)
 .skip))))))))))))))))))))
 (.seq (.reg [⟨(some 22), (.p (.mv (.t 0))), none⟩, ⟨(some 2), (.p (.mv (.t 22))), none⟩])
 .ret)))⟩
/- corral/corralref1.one -/
def af71 : AFunc := ⟨4, [.t 2],
 (.seq (.reg [⟨(some 2), (.p (.mv (.c (.int .u32 (.lit 0))))), none⟩])
 (.seq (.seq (.reg [⟨(some 3), (.p (.mv (.t 0))), none⟩])
 (.cond (.t 3) (.seq (.reg [⟨(some 2), (.p (.mv (.c (.int .u32 (.lit 1))))), none⟩])
 .ret)
 .skip))
 (.seq (.reg [⟨(some 2), (.p (.mv (.c (.int .u32 (.lit 0))))), none⟩])
 .ret)))⟩
/- corral/corralref1.Less -/
def af72 : AFunc := ⟨16, [.t 6],
 (.seq (.reg [⟨(some 6), (.p (.mv (.c (.bool (.lit false))))), none⟩])
 (.seq (.seq (.reg [⟨(some 7), (.p (.mv (.t 2))), none⟩])
 (.cond (.t 7) (.seq (.reg [⟨(some 8), (.p (.mv (.t 0))), none⟩, ⟨(some 9), (.p (.conv .i32 (.t 8))), none⟩, ⟨(some 10), (.p (.mv (.t 1))), none⟩, ⟨(some 11), (.p (.conv .i32 (.t 10))), none⟩, ⟨(some 12), (.p (.bin 0 .lss (.t 9) (.t 11))), none⟩, ⟨(some 6), (.p (.mv (.t 12))), none⟩])
 .ret)
 .skip))
 (.seq (.reg [⟨(some 13), (.p (.mv (.t 0))), none⟩, ⟨(some 14), (.p (.mv (.t 1))), none⟩, ⟨(some 15), (.p (.bin 0 .lss (.t 13) (.t 14))), none⟩, ⟨(some 6), (.p (.mv (.t 15))), none⟩])
 .ret)))⟩
/- corral/corralref1.Right -/
def af73 : AFunc := ⟨20, [.t 6],
 (.seq (.reg [⟨(some 6), (.p (.mv (.c (.int .u32 (.lit 0))))), none⟩])
 (.seq (.reg [⟨(some 8), (.p (.mv (.t 1))), none⟩, ⟨(some 9), (.p (.bin 0 .and (.t 8) (.c (.int .i64 (.lit 31))))), none⟩, ⟨(some 10), (.p (.conv .u64 (.t 9))), none⟩, ⟨(some 7), (.p (.mv (.t 10))), none⟩])
 (.seq (.seq (.reg [⟨(some 11), (.p (.mv (.t 2))), none⟩])
 (.cond (.t 11) (.seq (.reg [⟨(some 12), (.p (.mv (.t 0))), none⟩, ⟨(some 13), (.p (.conv .i32 (.t 12))), none⟩, ⟨(some 14), (.p (.mv (.t 7))), none⟩, ⟨(some 15), (.p (.bin 0 .shr (.t 13) (.t 14))), none⟩, ⟨(some 16), (.p (.conv .u32 (.t 15))), none⟩, ⟨(some 6), (.p (.mv (.t 16))), none⟩])
 .ret)
 .skip))
 (.seq (.reg [⟨(some 17), (.p (.mv (.t 0))), none⟩, ⟨(some 18), (.p (.mv (.t 7))), none⟩, ⟨(some 19), (.p (.bin 0 .shr (.t 17) (.t 18))), none⟩, ⟨(some 6), (.p (.mv (.t 19))), none⟩])
 .ret))))⟩
/- corral/corralref1.High -/
def af74 : AFunc := ⟨48, [.t 8],
 (.seq (.reg [⟨(some 8), (.p (.mv (.c (.int .u32 (.lit 0))))), none⟩])
 (.seq (.reg [⟨(some 11), (.p (.mv (.t 0))), none⟩, ⟨(some 12), (.p (.conv .i64 (.t 11))), none⟩, ⟨(some 9), (.p (.mv (.t 12))), none⟩])
 (.seq (.reg [⟨(some 13), (.p (.mv (.t 1))), none⟩, ⟨(some 14), (.p (.conv .i64 (.t 13))), none⟩, ⟨(some 10), (.p (.mv (.t 14))), none⟩])
 (.seq (.seq (.reg [⟨(some 15), (.p (.mv (.t 2))), none⟩, ⟨(some 16), (.p (.mv (.t 15))), none⟩, ⟨(some 17), (.p (.mv (.t 0))), (some (16, true))⟩, ⟨(some 18), (.p (.bin 0 .geq (.t 17) (.c (.int .u32 (.lit 2147483648))))), (some (16, true))⟩, ⟨(some 19), (.pick (.t 16) (.t 18) (.c (.bool (.lit false)))), none⟩])
 (.cond (.t 19) (.reg [⟨(some 20), (.p (.mv (.t 9))), none⟩, ⟨(some 21), (.p (.bin 0 .sub (.t 20) (.c (.int .i64 (.lit 4294967296))))), none⟩, ⟨(some 9), (.p (.mv (.t 21))), none⟩])
 .skip))
 (.seq (.seq (.reg [⟨(some 22), (.p (.mv (.t 3))), none⟩, ⟨(some 23), (.p (.mv (.t 22))), none⟩, ⟨(some 24), (.p (.mv (.t 1))), (some (23, true))⟩, ⟨(some 25), (.p (.bin 0 .geq (.t 24) (.c (.int .u32 (.lit 2147483648))))), (some (23, true))⟩, ⟨(some 26), (.pick (.t 23) (.t 25) (.c (.bool (.lit false)))), none⟩])
 (.cond (.t 26) (.reg [⟨(some 27), (.p (.mv (.t 10))), none⟩, ⟨(some 28), (.p (.bin 0 .sub (.t 27) (.c (.int .i64 (.lit 4294967296))))), none⟩, ⟨(some 10), (.p (.mv (.t 28))), none⟩])
 .skip))
 (.seq (.seq (.reg [⟨(some 29), (.p (.mv (.t 2))), none⟩, ⟨(some 30), (.p (.un .not (.t 29))), none⟩, ⟨(some 31), (.p (.mv (.t 30))), none⟩, ⟨(some 32), (.p (.mv (.t 3))), (some (31, true))⟩, ⟨(some 33), (.p (.un .not (.t 32))), (some (31, true))⟩, ⟨(some 34), (.pick (.t 31) (.t 33) (.c (.bool (.lit false)))), none⟩])
 (.cond (.t 34) (.seq (.reg [⟨(some 35), (.p (.mv (.t 0))), none⟩, ⟨(some 36), (.p (.conv .u64 (.t 35))), none⟩, ⟨(some 37), (.p (.mv (.t 1))), none⟩, ⟨(some 38), (.p (.conv .u64 (.t 37))), none⟩, ⟨(some 39), (.p (.bin 0 .mul (.t 36) (.t 38))), none⟩, ⟨(some 40), (.p (.bin 0 .shr (.t 39) (.c (.int .u64 (.lit 32))))), none⟩, ⟨(some 41), (.p (.conv .u32 (.t 40))), none⟩, ⟨(some 8), (.p (.mv (.t 41))), none⟩])
 .ret)
 .skip))
 (.seq (.reg [⟨(some 42), (.p (.mv (.t 9))), none⟩, ⟨(some 43), (.p (.mv (.t 10))), none⟩, ⟨(some 44), (.p (.bin 0 .mul (.t 42) (.t 43))), none⟩, ⟨(some 45), (.p (.conv .u64 (.t 44))), none⟩, ⟨(some 46), (.p (.bin 0 .shr (.t 45) (.c (.int .u64 (.lit 32))))), none⟩, ⟨(some 47), (.p (.conv .u32 (.t 46))), none⟩, ⟨(some 8), (.p (.mv (.t 47))), none⟩])
 .ret)))))))⟩
/- corral/corralref1.Div -/
def af75 : AFunc := ⟨24, [.t 6],
 (.seq (.reg [⟨(some 6), (.p (.mv (.c (.int .u32 (.lit 0))))), none⟩])
 (.seq (.seq (.reg [⟨(some 7), (.p (.mv (.t 1))), none⟩, ⟨(some 8), (.p (.bin 0 .eql (.t 7) (.c (.int .u32 (.lit 0))))), none⟩])
 (.cond (.t 8) (.seq (.reg [⟨(some 6), (.p (.mv (.c (.int .u32 (.lit 4294967295))))), none⟩])
 .ret)
 .skip))
 (.seq (.seq (.reg [⟨(some 9), (.p (.mv (.t 2))), none⟩, ⟨(some 10), (.p (.un .not (.t 9))), none⟩])
 (.cond (.t 10) (.seq (.reg [⟨(some 11), (.p (.mv (.t 0))), none⟩, ⟨(some 12), (.p (.mv (.t 1))), none⟩, ⟨(some 13), (.p (.bin 0 .quo (.t 11) (.t 12))), none⟩, ⟨(some 6), (.p (.mv (.t 13))), none⟩])
 .ret)
 .skip))
 (.seq (.seq (.reg [⟨(some 14), (.p (.mv (.t 1))), none⟩, ⟨(some 15), (.p (.bin 0 .eql (.t 14) (.c (.int .u32 (.lit 4294967295))))), none⟩])
 (.cond (.t 15) (.seq (.reg [⟨(some 16), (.p (.mv (.t 0))), none⟩, ⟨(some 17), (.p (.un .neg (.t 16))), none⟩, ⟨(some 6), (.p (.mv (.t 17))), none⟩])
 .ret)
 .skip))
 (.seq (.reg [⟨(some 18), (.p (.mv (.t 0))), none⟩, ⟨(some 19), (.p (.conv .i32 (.t 18))), none⟩, ⟨(some 20), (.p (.mv (.t 1))), none⟩, ⟨(some 21), (.p (.conv .i32 (.t 20))), none⟩, ⟨(some 22), (.p (.bin 0 .quo (.t 19) (.t 21))), none⟩, ⟨(some 23), (.p (.conv .u32 (.t 22))), none⟩, ⟨(some 6), (.p (.mv (.t 23))), none⟩])
 .ret)))))⟩
/- corral/corralref1.Rem -/
def af76 : AFunc := ⟨23, [.t 6],
 (.seq (.reg [⟨(some 6), (.p (.mv (.c (.int .u32 (.lit 0))))), none⟩])
 (.seq (.seq (.reg [⟨(some 7), (.p (.mv (.t 1))), none⟩, ⟨(some 8), (.p (.bin 0 .eql (.t 7) (.c (.int .u32 (.lit 0))))), none⟩])
 (.cond (.t 8) (.seq (.reg [⟨(some 9), (.p (.mv (.t 0))), none⟩, ⟨(some 6), (.p (.mv (.t 9))), none⟩])
 .ret)
 .skip))
 (.seq (.seq (.reg [⟨(some 10), (.p (.mv (.t 2))), none⟩, ⟨(some 11), (.p (.un .not (.t 10))), none⟩])
 (.cond (.t 11) (.seq (.reg [⟨(some 12), (.p (.mv (.t 0))), none⟩, ⟨(some 13), (.p (.mv (.t 1))), none⟩, ⟨(some 14), (.p (.bin 0 .rem (.t 12) (.t 13))), none⟩, ⟨(some 6), (.p (.mv (.t 14))), none⟩])
 .ret)
 .skip))
 (.seq (.seq (.reg [⟨(some 15), (.p (.mv (.t 1))), none⟩, ⟨(some 16), (.p (.bin 0 .eql (.t 15) (.c (.int .u32 (.lit 4294967295))))), none⟩])
 (.cond (.t 16) (.seq (.reg [⟨(some 6), (.p (.mv (.c (.int .u32 (.lit 0))))), none⟩])
 .ret)
 .skip))
 (.seq (.reg [⟨(some 17), (.p (.mv (.t 0))), none⟩, ⟨(some 18), (.p (.conv .i32 (.t 17))), none⟩, ⟨(some 19), (.p (.mv (.t 1))), none⟩, ⟨(some 20), (.p (.conv .i32 (.t 19))), none⟩, ⟨(some 21), (.p (.bin 0 .rem (.t 18) (.t 20))), none⟩, ⟨(some 22), (.p (.conv .u32 (.t 21))), none⟩, ⟨(some 6), (.p (.mv (.t 22))), none⟩])
 .ret)))))⟩
/- corral/corralref1.Sign -/
def af77 : AFunc := ⟨31, [.t 4],
 (.seq (.reg [⟨(some 4), (.p (.mv (.c (.int .u32 (.lit 0))))), none⟩])
 (.seq (.seq (.reg [⟨(some 6), (.p (.mv (.t 1))), none⟩, ⟨(some 7), (.p (.bin 0 .lss (.t 6) (.c (.int .i64 (.lit 1))))), none⟩])
 (.cond (.t 7) (.seq (.reg [⟨(some 4), (.p (.mv (.c (.int .u32 (.lit 0))))), none⟩])
 .ret)
 .skip))
 (.seq (.seq (.reg [⟨(some 8), (.p (.mv (.t 1))), none⟩, ⟨(some 9), (.p (.bin 0 .gtr (.t 8) (.c (.int .i64 (.lit 31))))), none⟩])
 (.cond (.t 9) (.seq (.reg [⟨(some 10), (.p (.mv (.t 0))), none⟩, ⟨(some 4), (.p (.mv (.t 10))), none⟩])
 .ret)
 .skip))
 (.seq (.reg [⟨(some 11), (.p (.mv (.t 0))), none⟩, ⟨(some 12), (.p (.mv (.t 1))), none⟩, ⟨(some 13), (.p (.conv .u64 (.t 12))), none⟩, ⟨(some 14), (.p (.bin 0 .shl (.c (.int .u32 (.lit 1))) (.t 13))), none⟩, ⟨(some 15), (.p (.bin 0 .sub (.t 14) (.c (.int .u32 (.lit 1))))), none⟩, ⟨(some 16), (.p (.bin 0 .and (.t 11) (.t 15))), none⟩, ⟨(some 5), (.p (.mv (.t 16))), none⟩])
 (.seq (.seq (.reg [⟨(some 17), (.p (.mv (.t 5))), none⟩, ⟨(some 18), (.p (.mv (.t 1))), none⟩, ⟨(some 19), (.p (.bin 0 .sub (.t 18) (.c (.int .i64 (.lit 1))))), none⟩, ⟨(some 20), (.p (.conv .u64 (.t 19))), none⟩, ⟨(some 21), (.p (.bin 0 .shr (.t 17) (.t 20))), none⟩, ⟨(some 22), (.p (.bin 0 .eql (.t 21) (.c (.int .u32 (.lit 1))))), none⟩])
 (.cond (.t 22) (.seq (.reg [⟨(some 23), (.p (.mv (.t 5))), none⟩, ⟨(some 24), (.p (.mv (.t 1))), none⟩, ⟨(some 25), (.p (.conv .u64 (.t 24))), none⟩, ⟨(some 26), (.p (.bin 0 .shl (.c (.int .u32 (.lit 1))) (.t 25))), none⟩, ⟨(some 27), (.p (.bin 0 .sub (.t 26) (.c (.int .u32 (.lit 1))))), none⟩, ⟨(some 28), (.p (.un .xor (.t 27))), none⟩, ⟨(some 29), (.p (.bin 0 .or (.t 23) (.t 28))), none⟩, ⟨(some 4), (.p (.mv (.t 29))), none⟩])
 .ret)
 .skip))
 (.seq (.reg [⟨(some 30), (.p (.mv (.t 5))), none⟩, ⟨(some 4), (.p (.mv (.t 30))), none⟩])
 .ret))))))⟩
/- corral/corralref1.Kind -/
def af78 : AFunc := ⟨72, [.t 2],
 (.seq (.reg [⟨(some 2), (.p (.mv (.c (.int .i64 (.lit 0))))), none⟩])
 (.seq (.block 0 (.seq (.reg [⟨(some 4), (.p (.mv (.t 0))), none⟩, ⟨(some 5), (.p (.bin 0 .eql (.t 4) (.c (.int .i64 (.lit 1))))), none⟩, ⟨(some 6), (.p (.mv (.t 5))), none⟩, ⟨(some 7), (.p (.mv (.t 0))), (some (6, false))⟩, ⟨(some 8), (.p (.bin 0 .eql (.t 7) (.c (.int .i64 (.lit 2))))), (some (6, false))⟩, ⟨(some 9), (.pick (.t 6) (.c (.bool (.lit true))) (.t 8)), none⟩, ⟨(some 10), (.p (.mv (.t 9))), none⟩, ⟨(some 11), (.p (.mv (.t 0))), (some (10, false))⟩, ⟨(some 12), (.p (.bin 0 .geq (.t 11) (.c (.int .i64 (.lit 19))))), (some (10, false))⟩, ⟨(some 13), (.p (.mv (.t 12))), (some (10, false))⟩, ⟨(some 14), (.p (.mv (.t 0))), (some (13, true))⟩, ⟨(some 15), (.p (.bin 0 .leq (.t 14) (.c (.int .i64 (.lit 37))))), (some (13, true))⟩, ⟨(some 16), (.pick (.t 13) (.t 15) (.c (.bool (.lit false)))), (some (10, false))⟩, ⟨(some 17), (.pick (.t 10) (.c (.bool (.lit true))) (.t 16)), none⟩, ⟨(some 18), (.p (.mv (.t 17))), none⟩, ⟨(some 19), (.p (.mv (.t 0))), (some (18, false))⟩, ⟨(some 20), (.p (.bin 0 .geq (.t 19) (.c (.int .i64 (.lit 51))))), (some (18, false))⟩, ⟨(some 21), (.p (.mv (.t 20))), (some (18, false))⟩, ⟨(some 22), (.p (.mv (.t 0))), (some (21, true))⟩, ⟨(some 23), (.p (.bin 0 .leq (.t 22) (.c (.int .i64 (.lit 58))))), (some (21, true))⟩, ⟨(some 24), (.pick (.t 21) (.t 23) (.c (.bool (.lit false)))), (some (18, false))⟩, ⟨(some 25), (.pick (.t 18) (.c (.bool (.lit true))) (.t 24)), none⟩, ⟨(some 3), (.p (.mv (.t 25))), none⟩])
 (.cond (.t 3) (.seq (.reg [⟨(some 2), (.p (.mv (.c (.int .i64 (.lit 1))))), none⟩])
 .ret)
 (.seq (.reg [⟨(some 27), (.p (.mv (.t 0))), none⟩, ⟨(some 28), (.p (.bin 0 .eql (.t 27) (.c (.int .i64 (.lit 3))))), none⟩, ⟨(some 29), (.p (.mv (.t 28))), none⟩, ⟨(some 30), (.p (.mv (.t 0))), (some (29, false))⟩, ⟨(some 31), (.p (.bin 0 .eql (.t 30) (.c (.int .i64 (.lit 4))))), (some (29, false))⟩, ⟨(some 32), (.pick (.t 29) (.c (.bool (.lit true))) (.t 31)), none⟩, ⟨(some 26), (.p (.mv (.t 32))), none⟩])
 (.cond (.t 26) (.seq (.reg [⟨(some 2), (.p (.mv (.c (.int .i64 (.lit 2))))), none⟩])
 .ret)
 (.seq (.reg [⟨(some 34), (.p (.mv (.t 0))), none⟩, ⟨(some 35), (.p (.bin 0 .geq (.t 34) (.c (.int .i64 (.lit 5))))), none⟩, ⟨(some 36), (.p (.mv (.t 35))), none⟩, ⟨(some 37), (.p (.mv (.t 0))), (some (36, true))⟩, ⟨(some 38), (.p (.bin 0 .leq (.t 37) (.c (.int .i64 (.lit 10))))), (some (36, true))⟩, ⟨(some 39), (.pick (.t 36) (.t 38) (.c (.bool (.lit false)))), none⟩, ⟨(some 33), (.p (.mv (.t 39))), none⟩])
 (.cond (.t 33) (.seq (.reg [⟨(some 2), (.p (.mv (.c (.int .i64 (.lit 3))))), none⟩])
 .ret)
 (.seq (.reg [⟨(some 41), (.p (.mv (.t 0))), none⟩, ⟨(some 42), (.p (.bin 0 .geq (.t 41) (.c (.int .i64 (.lit 11))))), none⟩, ⟨(some 43), (.p (.mv (.t 42))), none⟩, ⟨(some 44), (.p (.mv (.t 0))), (some (43, true))⟩, ⟨(some 45), (.p (.bin 0 .leq (.t 44) (.c (.int .i64 (.lit 15))))), (some (43, true))⟩, ⟨(some 46), (.pick (.t 43) (.t 45) (.c (.bool (.lit false)))), none⟩, ⟨(some 47), (.p (.mv (.t 46))), none⟩, ⟨(some 48), (.p (.mv (.t 0))), (some (47, false))⟩, ⟨(some 49), (.p (.bin 0 .eql (.t 48) (.c (.int .i64 (.lit 59))))), (some (47, false))⟩, ⟨(some 50), (.pick (.t 47) (.c (.bool (.lit true))) (.t 49)), none⟩, ⟨(some 40), (.p (.mv (.t 50))), none⟩])
 (.cond (.t 40) (.seq (.reg [⟨(some 2), (.p (.mv (.c (.int .i64 (.lit 4))))), none⟩])
 .ret)
 (.seq (.reg [⟨(some 52), (.p (.mv (.t 0))), none⟩, ⟨(some 53), (.p (.bin 0 .geq (.t 52) (.c (.int .i64 (.lit 16))))), none⟩, ⟨(some 54), (.p (.mv (.t 53))), none⟩, ⟨(some 55), (.p (.mv (.t 0))), (some (54, true))⟩, ⟨(some 56), (.p (.bin 0 .leq (.t 55) (.c (.int .i64 (.lit 18))))), (some (54, true))⟩, ⟨(some 57), (.pick (.t 54) (.t 56) (.c (.bool (.lit false)))), none⟩, ⟨(some 51), (.p (.mv (.t 57))), none⟩])
 (.cond (.t 51) (.seq (.reg [⟨(some 2), (.p (.mv (.c (.int .i64 (.lit 5))))), none⟩])
 .ret)
 (.seq (.reg [⟨(some 59), (.p (.mv (.t 0))), none⟩, ⟨(some 60), (.p (.bin 0 .geq (.t 59) (.c (.int .i64 (.lit 60))))), none⟩, ⟨(some 61), (.p (.mv (.t 60))), none⟩, ⟨(some 62), (.p (.mv (.t 0))), (some (61, true))⟩, ⟨(some 63), (.p (.bin 0 .leq (.t 62) (.c (.int .i64 (.lit 69))))), (some (61, true))⟩, ⟨(some 64), (.pick (.t 61) (.t 63) (.c (.bool (.lit false)))), none⟩, ⟨(some 58), (.p (.mv (.t 64))), none⟩])
 (.cond (.t 58) (.seq (.reg [⟨(some 2), (.p (.mv (.c (.int .i64 (.lit 6))))), none⟩])
 .ret)
 (.seq (.reg [⟨(some 66), (.p (.mv (.t 0))), none⟩, ⟨(some 67), (.p (.bin 0 .geq (.t 66) (.c (.int .i64 (.lit 1))))), none⟩, ⟨(some 68), (.p (.mv (.t 67))), none⟩, ⟨(some 69), (.p (.mv (.t 0))), (some (68, true))⟩, ⟨(some 70), (.p (.bin 0 .leq (.t 69) (.c (.int .i64 (.lit 69))))), (some (68, true))⟩, ⟨(some 71), (.pick (.t 68) (.t 70) (.c (.bool (.lit false)))), none⟩, ⟨(some 65), (.p (.mv (.t 71))), none⟩])
 (.cond (.t 65) (.seq (.reg [⟨(some 2), (.p (.mv (.c (.int .i64 (.lit 7))))), none⟩])
 .ret)
 .skip)))))))))))))))
 (.seq (.reg [⟨(some 2), (.p (.mv (.c (.int .i64 (.lit 0))))), none⟩])
 .ret)))⟩
/- corral/corralref1.Low -/
def af79 : AFunc := ⟨11, [.t 4],
 (.seq (.reg [⟨(some 4), (.p (.mv (.c (.int .u32 (.lit 0))))), none⟩])
 (.seq (.seq (.reg [⟨(some 5), (.p (.mv (.t 1))), none⟩, ⟨(some 6), (.p (.bin 0 .lss (.t 5) (.c (.int .i64 (.lit 1))))), none⟩])
 (.cond (.t 6) (.seq (.reg [⟨(some 4), (.p (.mv (.c (.int .u32 (.lit 0))))), none⟩])
 .ret)
 .skip))
 (.seq (.reg [⟨(some 7), (.p (.mv (.t 0))), none⟩, ⟨(some 8), (.p (.mv (.t 1))), none⟩, ⟨(some 9), (.p (.bin 0 .mul (.c (.int .i64 (.lit 8))) (.t 8))), none⟩, ⟨(some 10), (.call (.f 85) [(.t 7), (.c (.int .i64 (.lit 0))), (.t 9)]), none⟩, ⟨(some 4), (.p (.mv (.t 10))), none⟩])
 .ret)))⟩
/- corral/word.wide -/
def af82 : AFunc := ⟨12, [.t 4],
 (.seq (.reg [⟨(some 4), (.p (.mv (.c (.int .u64 (.lit 0))))), none⟩])
 (.seq (.seq (.reg [⟨(some 5), (.p (.mv (.t 1))), none⟩])
 (.cond (.t 5) (.seq (.reg [⟨(some 6), (.p (.mv (.t 0))), none⟩, ⟨(some 7), (.p (.conv .i32 (.t 6))), none⟩, ⟨(some 8), (.p (.conv .i64 (.t 7))), none⟩, ⟨(some 9), (.p (.conv .u64 (.t 8))), none⟩, ⟨(some 4), (.p (.mv (.t 9))), none⟩])
 .ret)
 .skip))
 (.seq (.reg [⟨(some 10), (.p (.mv (.t 0))), none⟩, ⟨(some 11), (.p (.conv .u64 (.t 10))), none⟩, ⟨(some 4), (.p (.mv (.t 11))), none⟩])
 .ret)))⟩
/- corral/isa.find -/
def af83 : AFunc := ⟨16, [.cell 2 true 7, .t 3],
 (.seq (.reg [⟨(some 2), (.newC [(.int .i64 (.lit 0)), (.str ⟨#[]⟩), (.int .i64 (.lit 0)), (.int .u32 (.lit 0)), (.int .u32 (.lit 0)), (.int .u32 (.lit 0)), (.int .i64 (.lit 0))]), none⟩, ⟨(some 3), (.p (.mv (.c (.bool (.lit false))))), none⟩])
 (.seq (.seq (.reg [⟨(some 4), (.p (.mv (.t 0))), none⟩, ⟨(some 5), (.p (.bin 0 .lss (.t 4) (.c (.int .i64 (.lit 1))))), none⟩, ⟨(some 6), (.p (.mv (.t 5))), none⟩, ⟨(some 7), (.p (.mv (.t 0))), (some (6, false))⟩, ⟨(some 8), (.p (.bin 0 .gtr (.t 7) (.c (.int .i64 (.lit 69))))), (some (6, false))⟩, ⟨(some 9), (.pick (.t 6) (.c (.bool (.lit true))) (.t 8)), none⟩])
 (.cond (.t 9) (.seq (.reg [⟨(some 10), (.p (.build [(.int .i64 (.lit 0)), (.str ⟨#[]⟩), (.int .i64 (.lit 0)), (.int .u32 (.lit 0)), (.int .u32 (.lit 0)), (.int .u32 (.lit 0)), (.int .i64 (.lit 0))] [])), none⟩, ⟨none, (.store 7 (.t 2) (.t 10)), none⟩, ⟨(some 3), (.p (.mv (.c (.bool (.lit false))))), none⟩])
 .ret)
 .skip))
 (.seq (.reg [⟨(some 11), (.call (.f 87) []), none⟩, ⟨(some 12), (.p (.mv (.t 0))), none⟩, ⟨(some 13), (.p (.bin 0 .sub (.t 12) (.c (.int .i64 (.lit 1))))), none⟩, ⟨(some 14), (.p (.idxSl 7 (.t 11) (.t 13))), none⟩, ⟨(some 15), (.load true 7 (.t 14)), none⟩, ⟨none, (.store 7 (.t 2) (.t 15)), none⟩, ⟨(some 3), (.p (.mv (.c (.bool (.lit true))))), none⟩])
 .ret)))⟩
/- corral/word.mask -/
def af84 : AFunc := ⟨9, [.t 2],
 (.seq (.reg [⟨(some 2), (.p (.mv (.c (.int .u32 (.lit 0))))), none⟩])
 (.seq (.seq (.reg [⟨(some 3), (.p (.mv (.t 0))), none⟩, ⟨(some 4), (.p (.bin 0 .geq (.t 3) (.c (.int .i64 (.lit 32))))), none⟩])
 (.cond (.t 4) (.seq (.reg [⟨(some 2), (.p (.mv (.c (.int .u32 (.lit 4294967295))))), none⟩])
 .ret)
 .skip))
 (.seq (.reg [⟨(some 5), (.p (.mv (.t 0))), none⟩, ⟨(some 6), (.p (.mx (.t 5) (.c (.int .i64 (.lit 0))))), none⟩, ⟨(some 7), (.p (.bin 0 .shl (.c (.int .u32 (.lit 1))) (.t 6))), none⟩, ⟨(some 8), (.p (.bin 0 .sub (.t 7) (.c (.int .u32 (.lit 1))))), none⟩, ⟨(some 2), (.p (.mv (.t 8))), none⟩])
 .ret)))⟩
/- corral/corralref1.Bits -/
def af85 : AFunc := ⟨30, [.t 6],
 (.seq (.reg [⟨(some 6), (.p (.mv (.c (.int .u32 (.lit 0))))), none⟩])
 (.seq (.seq (.reg [⟨(some 7), (.p (.mv (.t 1))), none⟩, ⟨(some 8), (.p (.bin 0 .lss (.t 7) (.c (.int .i64 (.lit 0))))), none⟩, ⟨(some 9), (.p (.mv (.t 8))), none⟩, ⟨(some 10), (.p (.mv (.t 1))), (some (9, false))⟩, ⟨(some 11), (.p (.bin 0 .gtr (.t 10) (.c (.int .i64 (.lit 31))))), (some (9, false))⟩, ⟨(some 12), (.pick (.t 9) (.c (.bool (.lit true))) (.t 11)), none⟩, ⟨(some 13), (.p (.mv (.t 12))), none⟩, ⟨(some 14), (.p (.mv (.t 2))), (some (13, false))⟩, ⟨(some 15), (.p (.bin 0 .lss (.t 14) (.c (.int .i64 (.lit 1))))), (some (13, false))⟩, ⟨(some 16), (.pick (.t 13) (.c (.bool (.lit true))) (.t 15)), none⟩])
 (.cond (.t 16) (.seq (.reg [⟨(some 6), (.p (.mv (.c (.int .u32 (.lit 0))))), none⟩])
 .ret)
 .skip))
 (.seq (.reg [⟨(some 17), (.p (.mv (.t 0))), none⟩, ⟨(some 18), (.p (.mv (.t 1))), none⟩, ⟨(some 19), (.p (.conv .u64 (.t 18))), none⟩, ⟨(some 20), (.p (.bin 0 .shr (.t 17) (.t 19))), none⟩, ⟨(some 0), (.p (.mv (.t 20))), none⟩])
 (.seq (.seq (.reg [⟨(some 21), (.p (.mv (.t 2))), none⟩, ⟨(some 22), (.p (.bin 0 .geq (.t 21) (.c (.int .i64 (.lit 32))))), none⟩])
 (.cond (.t 22) (.seq (.reg [⟨(some 23), (.p (.mv (.t 0))), none⟩, ⟨(some 6), (.p (.mv (.t 23))), none⟩])
 .ret)
 .skip))
 (.seq (.reg [⟨(some 24), (.p (.mv (.t 0))), none⟩, ⟨(some 25), (.p (.mv (.t 2))), none⟩, ⟨(some 26), (.p (.conv .u64 (.t 25))), none⟩, ⟨(some 27), (.p (.bin 0 .shl (.c (.int .u32 (.lit 1))) (.t 26))), none⟩, ⟨(some 28), (.p (.bin 0 .sub (.t 27) (.c (.int .u32 (.lit 1))))), none⟩, ⟨(some 29), (.p (.bin 0 .and (.t 24) (.t 28))), none⟩, ⟨(some 6), (.p (.mv (.t 29))), none⟩])
 .ret)))))⟩
/- corral/isa.rows -/
def af87 : AFunc := ⟨71, [.t 0],
 (.seq (.reg [⟨(some 0), (.p (.mv (.c .nilSlice))), none⟩])
 (.seq (.reg [⟨(some 1), (.p (.build [(.int .i64 (.lit 0)), (.str ⟨#[]⟩), (.int .i64 (.lit 0)), (.int .u32 (.lit 0)), (.int .u32 (.lit 0)), (.int .u32 (.lit 0)), (.int .i64 (.lit 0))] [(0, 1, (.c (.int .i64 (.lit 1)))), (1, 1, (.c (.str ⟨#[108, 117, 105]⟩))), (2, 1, (.c (.int .i64 (.lit 0)))), (3, 1, (.c (.int .u32 (.lit 55)))), (4, 1, (.c (.int .u32 (.lit 0)))), (5, 1, (.c (.int .u32 (.lit 0)))), (6, 1, (.c (.int .i64 (.lit 1))))])), none⟩, ⟨(some 2), (.p (.build [(.int .i64 (.lit 0)), (.str ⟨#[]⟩), (.int .i64 (.lit 0)), (.int .u32 (.lit 0)), (.int .u32 (.lit 0)), (.int .u32 (.lit 0)), (.int .i64 (.lit 0))] [(0, 1, (.c (.int .i64 (.lit 2)))), (1, 1, (.c (.str ⟨#[97, 117, 105, 112, 99]⟩))), (2, 1, (.c (.int .i64 (.lit 0)))), (3, 1, (.c (.int .u32 (.lit 23)))), (4, 1, (.c (.int .u32 (.lit 0)))), (5, 1, (.c (.int .u32 (.lit 0)))), (6, 1, (.c (.int .i64 (.lit 1))))])), none⟩, ⟨(some 3), (.p (.build [(.int .i64 (.lit 0)), (.str ⟨#[]⟩), (.int .i64 (.lit 0)), (.int .u32 (.lit 0)), (.int .u32 (.lit 0)), (.int .u32 (.lit 0)), (.int .i64 (.lit 0))] [(0, 1, (.c (.int .i64 (.lit 3)))), (1, 1, (.c (.str ⟨#[106, 97, 108]⟩))), (2, 1, (.c (.int .i64 (.lit 1)))), (3, 1, (.c (.int .u32 (.lit 111)))), (4, 1, (.c (.int .u32 (.lit 0)))), (5, 1, (.c (.int .u32 (.lit 0)))), (6, 1, (.c (.int .i64 (.lit 2))))])), none⟩, ⟨(some 4), (.p (.build [(.int .i64 (.lit 0)), (.str ⟨#[]⟩), (.int .i64 (.lit 0)), (.int .u32 (.lit 0)), (.int .u32 (.lit 0)), (.int .u32 (.lit 0)), (.int .i64 (.lit 0))] [(0, 1, (.c (.int .i64 (.lit 4)))), (1, 1, (.c (.str ⟨#[106, 97, 108, 114]⟩))), (2, 1, (.c (.int .i64 (.lit 2)))), (3, 1, (.c (.int .u32 (.lit 103)))), (4, 1, (.c (.int .u32 (.lit 0)))), (5, 1, (.c (.int .u32 (.lit 0)))), (6, 1, (.c (.int .i64 (.lit 2))))])), none⟩, ⟨(some 5), (.p (.build [(.int .i64 (.lit 0)), (.str ⟨#[]⟩), (.int .i64 (.lit 0)), (.int .u32 (.lit 0)), (.int .u32 (.lit 0)), (.int .u32 (.lit 0)), (.int .i64 (.lit 0))] [(0, 1, (.c (.int .i64 (.lit 5)))), (1, 1, (.c (.str ⟨#[98, 101, 113]⟩))), (2, 1, (.c (.int .i64 (.lit 3)))), (3, 1, (.c (.int .u32 (.lit 99)))), (4, 1, (.c (.int .u32 (.lit 0)))), (5, 1, (.c (.int .u32 (.lit 0)))), (6, 1, (.c (.int .i64 (.lit 3))))])), none⟩, ⟨(some 6), (.p (.build [(.int .i64 (.lit 0)), (.str ⟨#[]⟩), (.int .i64 (.lit 0)), (.int .u32 (.lit 0)), (.int .u32 (.lit 0)), (.int .u32 (.lit 0)), (.int .i64 (.lit 0))] [(0, 1, (.c (.int .i64 (.lit 6)))), (1, 1, (.c (.str ⟨#[98, 110, 101]⟩))), (2, 1, (.c (.int .i64 (.lit 3)))), (3, 1, (.c (.int .u32 (.lit 99)))), (4, 1, (.c (.int .u32 (.lit 1)))), (5, 1, (.c (.int .u32 (.lit 0)))), (6, 1, (.c (.int .i64 (.lit 3))))])), none⟩, ⟨(some 7), (.p (.build [(.int .i64 (.lit 0)), (.str ⟨#[]⟩), (.int .i64 (.lit 0)), (.int .u32 (.lit 0)), (.int .u32 (.lit 0)), (.int .u32 (.lit 0)), (.int .i64 (.lit 0))] [(0, 1, (.c (.int .i64 (.lit 7)))), (1, 1, (.c (.str ⟨#[98, 108, 116]⟩))), (2, 1, (.c (.int .i64 (.lit 3)))), (3, 1, (.c (.int .u32 (.lit 99)))), (4, 1, (.c (.int .u32 (.lit 4)))), (5, 1, (.c (.int .u32 (.lit 0)))), (6, 1, (.c (.int .i64 (.lit 3))))])), none⟩, ⟨(some 8), (.p (.build [(.int .i64 (.lit 0)), (.str ⟨#[]⟩), (.int .i64 (.lit 0)), (.int .u32 (.lit 0)), (.int .u32 (.lit 0)), (.int .u32 (.lit 0)), (.int .i64 (.lit 0))] [(0, 1, (.c (.int .i64 (.lit 8)))), (1, 1, (.c (.str ⟨#[98, 103, 101]⟩))), (2, 1, (.c (.int .i64 (.lit 3)))), (3, 1, (.c (.int .u32 (.lit 99)))), (4, 1, (.c (.int .u32 (.lit 5)))), (5, 1, (.c (.int .u32 (.lit 0)))), (6, 1, (.c (.int .i64 (.lit 3))))])), none⟩, ⟨(some 9), (.p (.build [(.int .i64 (.lit 0)), (.str ⟨#[]⟩), (.int .i64 (.lit 0)), (.int .u32 (.lit 0)), (.int .u32 (.lit 0)), (.int .u32 (.lit 0)), (.int .i64 (.lit 0))] [(0, 1, (.c (.int .i64 (.lit 9)))), (1, 1, (.c (.str ⟨#[98, 108, 116, 117]⟩))), (2, 1, (.c (.int .i64 (.lit 3)))), (3, 1, (.c (.int .u32 (.lit 99)))), (4, 1, (.c (.int .u32 (.lit 6)))), (5, 1, (.c (.int .u32 (.lit 0)))), (6, 1, (.c (.int .i64 (.lit 3))))])), none⟩, ⟨(some 10), (.p (.build [(.int .i64 (.lit 0)), (.str ⟨#[]⟩), (.int .i64 (.lit 0)), (.int .u32 (.lit 0)), (.int .u32 (.lit 0)), (.int .u32 (.lit 0)), (.int .i64 (.lit 0))] [(0, 1, (.c (.int .i64 (.lit 10)))), (1, 1, (.c (.str ⟨#[98, 103, 101, 117]⟩))), (2, 1, (.c (.int .i64 (.lit 3)))), (3, 1, (.c (.int .u32 (.lit 99)))), (4, 1, (.c (.int .u32 (.lit 7)))), (5, 1, (.c (.int .u32 (.lit 0)))), (6, 1, (.c (.int .i64 (.lit 3))))])), none⟩, ⟨(some 11), (.p (.build [(.int .i64 (.lit 0)), (.str ⟨#[]⟩), (.int .i64 (.lit 0)), (.int .u32 (.lit 0)), (.int .u32 (.lit 0)), (.int .u32 (.lit 0)), (.int .i64 (.lit 0))] [(0, 1, (.c (.int .i64 (.lit 11)))), (1, 1, (.c (.str ⟨#[108, 98]⟩))), (2, 1, (.c (.int .i64 (.lit 2)))), (3, 1, (.c (.int .u32 (.lit 3)))), (4, 1, (.c (.int .u32 (.lit 0)))), (5, 1, (.c (.int .u32 (.lit 0)))), (6, 1, (.c (.int .i64 (.lit 4))))])), none⟩, ⟨(some 12), (.p (.build [(.int .i64 (.lit 0)), (.str ⟨#[]⟩), (.int .i64 (.lit 0)), (.int .u32 (.lit 0)), (.int .u32 (.lit 0)), (.int .u32 (.lit 0)), (.int .i64 (.lit 0))] [(0, 1, (.c (.int .i64 (.lit 12)))), (1, 1, (.c (.str ⟨#[108, 104]⟩))), (2, 1, (.c (.int .i64 (.lit 2)))), (3, 1, (.c (.int .u32 (.lit 3)))), (4, 1, (.c (.int .u32 (.lit 1)))), (5, 1, (.c (.int .u32 (.lit 0)))), (6, 1, (.c (.int .i64 (.lit 4))))])), none⟩, ⟨(some 13), (.p (.build [(.int .i64 (.lit 0)), (.str ⟨#[]⟩), (.int .i64 (.lit 0)), (.int .u32 (.lit 0)), (.int .u32 (.lit 0)), (.int .u32 (.lit 0)), (.int .i64 (.lit 0))] [(0, 1, (.c (.int .i64 (.lit 13)))), (1, 1, (.c (.str ⟨#[108, 119]⟩))), (2, 1, (.c (.int .i64 (.lit 2)))), (3, 1, (.c (.int .u32 (.lit 3)))), (4, 1, (.c (.int .u32 (.lit 2)))), (5, 1, (.c (.int .u32 (.lit 0)))), (6, 1, (.c (.int .i64 (.lit 4))))])), none⟩, ⟨(some 14), (.p (.build [(.int .i64 (.lit 0)), (.str ⟨#[]⟩), (.int .i64 (.lit 0)), (.int .u32 (.lit 0)), (.int .u32 (.lit 0)), (.int .u32 (.lit 0)), (.int .i64 (.lit 0))] [(0, 1, (.c (.int .i64 (.lit 14)))), (1, 1, (.c (.str ⟨#[108, 98, 117]⟩))), (2, 1, (.c (.int .i64 (.lit 2)))), (3, 1, (.c (.int .u32 (.lit 3)))), (4, 1, (.c (.int .u32 (.lit 4)))), (5, 1, (.c (.int .u32 (.lit 0)))), (6, 1, (.c (.int .i64 (.lit 4))))])), none⟩, ⟨(some 15), (.p (.build [(.int .i64 (.lit 0)), (.str ⟨#[]⟩), (.int .i64 (.lit 0)), (.int .u32 (.lit 0)), (.int .u32 (.lit 0)), (.int .u32 (.lit 0)), (.int .i64 (.lit 0))] [(0, 1, (.c (.int .i64 (.lit 15)))), (1, 1, (.c (.str ⟨#[108, 104, 117]⟩))), (2, 1, (.c (.int .i64 (.lit 2)))), (3, 1, (.c (.int .u32 (.lit 3)))), (4, 1, (.c (.int .u32 (.lit 5)))), (5, 1, (.c (.int .u32 (.lit 0)))), (6, 1, (.c (.int .i64 (.lit 4))))])), none⟩, ⟨(some 16), (.p (.build [(.int .i64 (.lit 0)), (.str ⟨#[]⟩), (.int .i64 (.lit 0)), (.int .u32 (.lit 0)), (.int .u32 (.lit 0)), (.int .u32 (.lit 0)), (.int .i64 (.lit 0))] [(0, 1, (.c (.int .i64 (.lit 16)))), (1, 1, (.c (.str ⟨#[115, 98]⟩))), (2, 1, (.c (.int .i64 (.lit 4)))), (3, 1, (.c (.int .u32 (.lit 35)))), (4, 1, (.c (.int .u32 (.lit 0)))), (5, 1, (.c (.int .u32 (.lit 0)))), (6, 1, (.c (.int .i64 (.lit 5))))])), none⟩, ⟨(some 17), (.p (.build [(.int .i64 (.lit 0)), (.str ⟨#[]⟩), (.int .i64 (.lit 0)), (.int .u32 (.lit 0)), (.int .u32 (.lit 0)), (.int .u32 (.lit 0)), (.int .i64 (.lit 0))] [(0, 1, (.c (.int .i64 (.lit 17)))), (1, 1, (.c (.str ⟨#[115, 104]⟩))), (2, 1, (.c (.int .i64 (.lit 4)))), (3, 1, (.c (.int .u32 (.lit 35)))), (4, 1, (.c (.int .u32 (.lit 1)))), (5, 1, (.c (.int .u32 (.lit 0)))), (6, 1, (.c (.int .i64 (.lit 5))))])), none⟩, ⟨(some 18), (.p (.build [(.int .i64 (.lit 0)), (.str ⟨#[]⟩), (.int .i64 (.lit 0)), (.int .u32 (.lit 0)), (.int .u32 (.lit 0)), (.int .u32 (.lit 0)), (.int .i64 (.lit 0))] [(0, 1, (.c (.int .i64 (.lit 18)))), (1, 1, (.c (.str ⟨#[115, 119]⟩))), (2, 1, (.c (.int .i64 (.lit 4)))), (3, 1, (.c (.int .u32 (.lit 35)))), (4, 1, (.c (.int .u32 (.lit 2)))), (5, 1, (.c (.int .u32 (.lit 0)))), (6, 1, (.c (.int .i64 (.lit 5))))])), none⟩, ⟨(some 19), (.p (.build [(.int .i64 (.lit 0)), (.str ⟨#[]⟩), (.int .i64 (.lit 0)), (.int .u32 (.lit 0)), (.int .u32 (.lit 0)), (.int .u32 (.lit 0)), (.int .i64 (.lit 0))] [(0, 1, (.c (.int .i64 (.lit 19)))), (1, 1, (.c (.str ⟨#[97, 100, 100, 105]⟩))), (2, 1, (.c (.int .i64 (.lit 2)))), (3, 1, (.c (.int .u32 (.lit 19)))), (4, 1, (.c (.int .u32 (.lit 0)))), (5, 1, (.c (.int .u32 (.lit 0)))), (6, 1, (.c (.int .i64 (.lit 1))))])), none⟩, ⟨(some 20), (.p (.build [(.int .i64 (.lit 0)), (.str ⟨#[]⟩), (.int .i64 (.lit 0)), (.int .u32 (.lit 0)), (.int .u32 (.lit 0)), (.int .u32 (.lit 0)), (.int .i64 (.lit 0))] [(0, 1, (.c (.int .i64 (.lit 20)))), (1, 1, (.c (.str ⟨#[115, 108, 116, 105]⟩))), (2, 1, (.c (.int .i64 (.lit 2)))), (3, 1, (.c (.int .u32 (.lit 19)))), (4, 1, (.c (.int .u32 (.lit 2)))), (5, 1, (.c (.int .u32 (.lit 0)))), (6, 1, (.c (.int .i64 (.lit 1))))])), none⟩, ⟨(some 21), (.p (.build [(.int .i64 (.lit 0)), (.str ⟨#[]⟩), (.int .i64 (.lit 0)), (.int .u32 (.lit 0)), (.int .u32 (.lit 0)), (.int .u32 (.lit 0)), (.int .i64 (.lit 0))] [(0, 1, (.c (.int .i64 (.lit 21)))), (1, 1, (.c (.str ⟨#[115, 108, 116, 105, 117]⟩))), (2, 1, (.c (.int .i64 (.lit 2)))), (3, 1, (.c (.int .u32 (.lit 19)))), (4, 1, (.c (.int .u32 (.lit 3)))), (5, 1, (.c (.int .u32 (.lit 0)))), (6, 1, (.c (.int .i64 (.lit 1))))])), none⟩, ⟨(some 22), (.p (.build [(.int .i64 (.lit 0)), (.str ⟨#[]⟩), (.int .i64 (.lit 0)), (.int .u32 (.lit 0)), (.int .u32 (.lit 0)), (.int .u32 (.lit 0)), (.int .i64 (.lit 0))] [(0, 1, (.c (.int .i64 (.lit 22)))), (1, 1, (.c (.str ⟨#[120, 111, 114, 105]⟩))), (2, 1, (.c (.int .i64 (.lit 2)))), (3, 1, (.c (.int .u32 (.lit 19)))), (4, 1, (.c (.int .u32 (.lit 4)))), (5, 1, (.c (.int .u32 (.lit 0)))), (6, 1, (.c (.int .i64 (.lit 1))))])), none⟩, ⟨(some 23), (.p (.build [(.int .i64 (.lit 0)), (.str ⟨#[]⟩), (.int .i64 (.lit 0)), (.int .u32 (.lit 0)), (.int .u32 (.lit 0)), (.int .u32 (.lit 0)), (.int .i64 (.lit 0))] [(0, 1, (.c (.int .i64 (.lit 23)))), (1, 1, (.c (.str ⟨#[111, 114, 105]⟩))), (2, 1, (.c (.int .i64 (.lit 2)))), (3, 1, (.c (.int .u32 (.lit 19)))), (4, 1, (.c (.int .u32 (.lit 6)))), (5, 1, (.c (.int .u32 (.lit 0)))), (6, 1, (.c (.int .i64 (.lit 1))))])), none⟩, ⟨(some 24), (.p (.build [(.int .i64 (.lit 0)), (.str ⟨#[]⟩), (.int .i64 (.lit 0)), (.int .u32 (.lit 0)), (.int .u32 (.lit 0)), (.int .u32 (.lit 0)), (.int .i64 (.lit 0))] [(0, 1, (.c (.int .i64 (.lit 24)))), (1, 1, (.c (.str ⟨#[97, 110, 100, 105]⟩))), (2, 1, (.c (.int .i64 (.lit 2)))), (3, 1, (.c (.int .u32 (.lit 19)))), (4, 1, (.c (.int .u32 (.lit 7)))), (5, 1, (.c (.int .u32 (.lit 0)))), (6, 1, (.c (.int .i64 (.lit 1))))])), none⟩, ⟨(some 25), (.p (.build [(.int .i64 (.lit 0)), (.str ⟨#[]⟩), (.int .i64 (.lit 0)), (.int .u32 (.lit 0)), (.int .u32 (.lit 0)), (.int .u32 (.lit 0)), (.int .i64 (.lit 0))] [(0, 1, (.c (.int .i64 (.lit 25)))), (1, 1, (.c (.str ⟨#[115, 108, 108, 105]⟩))), (2, 1, (.c (.int .i64 (.lit 5)))), (3, 1, (.c (.int .u32 (.lit 19)))), (4, 1, (.c (.int .u32 (.lit 1)))), (5, 1, (.c (.int .u32 (.lit 0)))), (6, 1, (.c (.int .i64 (.lit 1))))])), none⟩, ⟨(some 26), (.p (.build [(.int .i64 (.lit 0)), (.str ⟨#[]⟩), (.int .i64 (.lit 0)), (.int .u32 (.lit 0)), (.int .u32 (.lit 0)), (.int .u32 (.lit 0)), (.int .i64 (.lit 0))] [(0, 1, (.c (.int .i64 (.lit 26)))), (1, 1, (.c (.str ⟨#[115, 114, 108, 105]⟩))), (2, 1, (.c (.int .i64 (.lit 5)))), (3, 1, (.c (.int .u32 (.lit 19)))), (4, 1, (.c (.int .u32 (.lit 5)))), (5, 1, (.c (.int .u32 (.lit 0)))), (6, 1, (.c (.int .i64 (.lit 1))))])), none⟩, ⟨(some 27), (.p (.build [(.int .i64 (.lit 0)), (.str ⟨#[]⟩), (.int .i64 (.lit 0)), (.int .u32 (.lit 0)), (.int .u32 (.lit 0)), (.int .u32 (.lit 0)), (.int .i64 (.lit 0))] [(0, 1, (.c (.int .i64 (.lit 27)))), (1, 1, (.c (.str ⟨#[115, 114, 97, 105]⟩))), (2, 1, (.c (.int .i64 (.lit 5)))), (3, 1, (.c (.int .u32 (.lit 19)))), (4, 1, (.c (.int .u32 (.lit 5)))), (5, 1, (.c (.int .u32 (.lit 32)))), (6, 1, (.c (.int .i64 (.lit 1))))])), none⟩, ⟨(some 28), (.p (.build [(.int .i64 (.lit 0)), (.str ⟨#[]⟩), (.int .i64 (.lit 0)), (.int .u32 (.lit 0)), (.int .u32 (.lit 0)), (.int .u32 (.lit 0)), (.int .i64 (.lit 0))] [(0, 1, (.c (.int .i64 (.lit 28)))), (1, 1, (.c (.str ⟨#[97, 100, 100]⟩))), (2, 1, (.c (.int .i64 (.lit 6)))), (3, 1, (.c (.int .u32 (.lit 51)))), (4, 1, (.c (.int .u32 (.lit 0)))), (5, 1, (.c (.int .u32 (.lit 0)))), (6, 1, (.c (.int .i64 (.lit 1))))])), none⟩, ⟨(some 29), (.p (.build [(.int .i64 (.lit 0)), (.str ⟨#[]⟩), (.int .i64 (.lit 0)), (.int .u32 (.lit 0)), (.int .u32 (.lit 0)), (.int .u32 (.lit 0)), (.int .i64 (.lit 0))] [(0, 1, (.c (.int .i64 (.lit 29)))), (1, 1, (.c (.str ⟨#[115, 117, 98]⟩))), (2, 1, (.c (.int .i64 (.lit 6)))), (3, 1, (.c (.int .u32 (.lit 51)))), (4, 1, (.c (.int .u32 (.lit 0)))), (5, 1, (.c (.int .u32 (.lit 32)))), (6, 1, (.c (.int .i64 (.lit 1))))])), none⟩, ⟨(some 30), (.p (.build [(.int .i64 (.lit 0)), (.str ⟨#[]⟩), (.int .i64 (.lit 0)), (.int .u32 (.lit 0)), (.int .u32 (.lit 0)), (.int .u32 (.lit 0)), (.int .i64 (.lit 0))] [(0, 1, (.c (.int .i64 (.lit 30)))), (1, 1, (.c (.str ⟨#[115, 108, 108]⟩))), (2, 1, (.c (.int .i64 (.lit 6)))), (3, 1, (.c (.int .u32 (.lit 51)))), (4, 1, (.c (.int .u32 (.lit 1)))), (5, 1, (.c (.int .u32 (.lit 0)))), (6, 1, (.c (.int .i64 (.lit 1))))])), none⟩, ⟨(some 31), (.p (.build [(.int .i64 (.lit 0)), (.str ⟨#[]⟩), (.int .i64 (.lit 0)), (.int .u32 (.lit 0)), (.int .u32 (.lit 0)), (.int .u32 (.lit 0)), (.int .i64 (.lit 0))] [(0, 1, (.c (.int .i64 (.lit 31)))), (1, 1, (.c (.str ⟨#[115, 108, 116]⟩))), (2, 1, (.c (.int .i64 (.lit 6)))), (3, 1, (.c (.int .u32 (.lit 51)))), (4, 1, (.c (.int .u32 (.lit 2)))), (5, 1, (.c (.int .u32 (.lit 0)))), (6, 1, (.c (.int .i64 (.lit 1))))])), none⟩, ⟨(some 32), (.p (.build [(.int .i64 (.lit 0)), (.str ⟨#[]⟩), (.int .i64 (.lit 0)), (.int .u32 (.lit 0)), (.int .u32 (.lit 0)), (.int .u32 (.lit 0)), (.int .i64 (.lit 0))] [(0, 1, (.c (.int .i64 (.lit 32)))), (1, 1, (.c (.str ⟨#[115, 108, 116, 117]⟩))), (2, 1, (.c (.int .i64 (.lit 6)))), (3, 1, (.c (.int .u32 (.lit 51)))), (4, 1, (.c (.int .u32 (.lit 3)))), (5, 1, (.c (.int .u32 (.lit 0)))), (6, 1, (.c (.int .i64 (.lit 1))))])), none⟩, ⟨(some 33), (.p (.build [(.int .i64 (.lit 0)), (.str ⟨#[]⟩), (.int .i64 (.lit 0)), (.int .u32 (.lit 0)), (.int .u32 (.lit 0)), (.int .u32 (.lit 0)), (.int .i64 (.lit 0))] [(0, 1, (.c (.int .i64 (.lit 33)))), (1, 1, (.c (.str ⟨#[120, 111, 114]⟩))), (2, 1, (.c (.int .i64 (.lit 6)))), (3, 1, (.c (.int .u32 (.lit 51)))), (4, 1, (.c (.int .u32 (.lit 4)))), (5, 1, (.c (.int .u32 (.lit 0)))), (6, 1, (.c (.int .i64 (.lit 1))))])), none⟩, ⟨(some 34), (.p (.build [(.int .i64 (.lit 0)), (.str ⟨#[]⟩), (.int .i64 (.lit 0)), (.int .u32 (.lit 0)), (.int .u32 (.lit 0)), (.int .u32 (.lit 0)), (.int .i64 (.lit 0))] [(0, 1, (.c (.int .i64 (.lit 34)))), (1, 1, (.c (.str ⟨#[115, 114, 108]⟩))), (2, 1, (.c (.int .i64 (.lit 6)))), (3, 1, (.c (.int .u32 (.lit 51)))), (4, 1, (.c (.int .u32 (.lit 5)))), (5, 1, (.c (.int .u32 (.lit 0)))), (6, 1, (.c (.int .i64 (.lit 1))))])), none⟩, ⟨(some 35), (.p (.build [(.int .i64 (.lit 0)), (.str ⟨#[]⟩), (.int .i64 (.lit 0)), (.int .u32 (.lit 0)), (.int .u32 (.lit 0)), (.int .u32 (.lit 0)), (.int .i64 (.lit 0))] [(0, 1, (.c (.int .i64 (.lit 35)))), (1, 1, (.c (.str ⟨#[115, 114, 97]⟩))), (2, 1, (.c (.int .i64 (.lit 6)))), (3, 1, (.c (.int .u32 (.lit 51)))), (4, 1, (.c (.int .u32 (.lit 5)))), (5, 1, (.c (.int .u32 (.lit 32)))), (6, 1, (.c (.int .i64 (.lit 1))))])), none⟩, ⟨(some 36), (.p (.build [(.int .i64 (.lit 0)), (.str ⟨#[]⟩), (.int .i64 (.lit 0)), (.int .u32 (.lit 0)), (.int .u32 (.lit 0)), (.int .u32 (.lit 0)), (.int .i64 (.lit 0))] [(0, 1, (.c (.int .i64 (.lit 36)))), (1, 1, (.c (.str ⟨#[111, 114]⟩))), (2, 1, (.c (.int .i64 (.lit 6)))), (3, 1, (.c (.int .u32 (.lit 51)))), (4, 1, (.c (.int .u32 (.lit 6)))), (5, 1, (.c (.int .u32 (.lit 0)))), (6, 1, (.c (.int .i64 (.lit 1))))])), none⟩, ⟨(some 37), (.p (.build [(.int .i64 (.lit 0)), (.str ⟨#[]⟩), (.int .i64 (.lit 0)), (.int .u32 (.lit 0)), (.int .u32 (.lit 0)), (.int .u32 (.lit 0)), (.int .i64 (.lit 0))] [(0, 1, (.c (.int .i64 (.lit 37)))), (1, 1, (.c (.str ⟨#[97, 110, 100]⟩))), (2, 1, (.c (.int .i64 (.lit 6)))), (3, 1, (.c (.int .u32 (.lit 51)))), (4, 1, (.c (.int .u32 (.lit 7)))), (5, 1, (.c (.int .u32 (.lit 0)))), (6, 1, (.c (.int .i64 (.lit 1))))])), none⟩, ⟨(some 38), (.p (.build [(.int .i64 (.lit 0)), (.str ⟨#[]⟩), (.int .i64 (.lit 0)), (.int .u32 (.lit 0)), (.int .u32 (.lit 0)), (.int .u32 (.lit 0)), (.int .i64 (.lit 0))] [(0, 1, (.c (.int .i64 (.lit 38)))), (1, 1, (.c (.str ⟨#[102, 101, 110, 99, 101]⟩))), (2, 1, (.c (.int .i64 (.lit 7)))), (3, 1, (.c (.int .u32 (.lit 15)))), (4, 1, (.c (.int .u32 (.lit 0)))), (5, 1, (.c (.int .u32 (.lit 0)))), (6, 1, (.c (.int .i64 (.lit 7))))])), none⟩, ⟨(some 39), (.p (.build [(.int .i64 (.lit 0)), (.str ⟨#[]⟩), (.int .i64 (.lit 0)), (.int .u32 (.lit 0)), (.int .u32 (.lit 0)), (.int .u32 (.lit 0)), (.int .i64 (.lit 0))] [(0, 1, (.c (.int .i64 (.lit 39)))), (1, 1, (.c (.str ⟨#[102, 101, 110, 99, 101, 46, 105]⟩))), (2, 1, (.c (.int .i64 (.lit 8)))), (3, 1, (.c (.int .u32 (.lit 4111)))), (4, 1, (.c (.int .u32 (.lit 0)))), (5, 1, (.c (.int .u32 (.lit 0)))), (6, 1, (.c (.int .i64 (.lit 7))))])), none⟩, ⟨(some 40), (.p (.build [(.int .i64 (.lit 0)), (.str ⟨#[]⟩), (.int .i64 (.lit 0)), (.int .u32 (.lit 0)), (.int .u32 (.lit 0)), (.int .u32 (.lit 0)), (.int .i64 (.lit 0))] [(0, 1, (.c (.int .i64 (.lit 40)))), (1, 1, (.c (.str ⟨#[101, 99, 97, 108, 108]⟩))), (2, 1, (.c (.int .i64 (.lit 8)))), (3, 1, (.c (.int .u32 (.lit 115)))), (4, 1, (.c (.int .u32 (.lit 0)))), (5, 1, (.c (.int .u32 (.lit 0)))), (6, 1, (.c (.int .i64 (.lit 7))))])), none⟩, ⟨(some 41), (.p (.build [(.int .i64 (.lit 0)), (.str ⟨#[]⟩), (.int .i64 (.lit 0)), (.int .u32 (.lit 0)), (.int .u32 (.lit 0)), (.int .u32 (.lit 0)), (.int .i64 (.lit 0))] [(0, 1, (.c (.int .i64 (.lit 41)))), (1, 1, (.c (.str ⟨#[101, 98, 114, 101, 97, 107]⟩))), (2, 1, (.c (.int .i64 (.lit 8)))), (3, 1, (.c (.int .u32 (.lit 1048691)))), (4, 1, (.c (.int .u32 (.lit 0)))), (5, 1, (.c (.int .u32 (.lit 0)))), (6, 1, (.c (.int .i64 (.lit 7))))])), none⟩, ⟨(some 42), (.p (.build [(.int .i64 (.lit 0)), (.str ⟨#[]⟩), (.int .i64 (.lit 0)), (.int .u32 (.lit 0)), (.int .u32 (.lit 0)), (.int .u32 (.lit 0)), (.int .i64 (.lit 0))] [(0, 1, (.c (.int .i64 (.lit 42)))), (1, 1, (.c (.str ⟨#[109, 114, 101, 116]⟩))), (2, 1, (.c (.int .i64 (.lit 8)))), (3, 1, (.c (.int .u32 (.lit 807403635)))), (4, 1, (.c (.int .u32 (.lit 0)))), (5, 1, (.c (.int .u32 (.lit 0)))), (6, 1, (.c (.int .i64 (.lit 7))))])), none⟩, ⟨(some 43), (.p (.build [(.int .i64 (.lit 0)), (.str ⟨#[]⟩), (.int .i64 (.lit 0)), (.int .u32 (.lit 0)), (.int .u32 (.lit 0)), (.int .u32 (.lit 0)), (.int .i64 (.lit 0))] [(0, 1, (.c (.int .i64 (.lit 43)))), (1, 1, (.c (.str ⟨#[119, 102, 105]⟩))), (2, 1, (.c (.int .i64 (.lit 8)))), (3, 1, (.c (.int .u32 (.lit 273678451)))), (4, 1, (.c (.int .u32 (.lit 0)))), (5, 1, (.c (.int .u32 (.lit 0)))), (6, 1, (.c (.int .i64 (.lit 7))))])), none⟩, ⟨(some 44), (.p (.build [(.int .i64 (.lit 0)), (.str ⟨#[]⟩), (.int .i64 (.lit 0)), (.int .u32 (.lit 0)), (.int .u32 (.lit 0)), (.int .u32 (.lit 0)), (.int .i64 (.lit 0))] [(0, 1, (.c (.int .i64 (.lit 44)))), (1, 1, (.c (.str ⟨#[115, 102, 101, 110, 99, 101, 46, 118, 109, 97]⟩))), (2, 1, (.c (.int .i64 (.lit 9)))), (3, 1, (.c (.int .u32 (.lit 115)))), (4, 1, (.c (.int .u32 (.lit 0)))), (5, 1, (.c (.int .u32 (.lit 9)))), (6, 1, (.c (.int .i64 (.lit 7))))])), none⟩, ⟨(some 45), (.p (.build [(.int .i64 (.lit 0)), (.str ⟨#[]⟩), (.int .i64 (.lit 0)), (.int .u32 (.lit 0)), (.int .u32 (.lit 0)), (.int .u32 (.lit 0)), (.int .i64 (.lit 0))] [(0, 1, (.c (.int .i64 (.lit 45)))), (1, 1, (.c (.str ⟨#[99, 115, 114, 114, 119]⟩))), (2, 1, (.c (.int .i64 (.lit 10)))), (3, 1, (.c (.int .u32 (.lit 115)))), (4, 1, (.c (.int .u32 (.lit 1)))), (5, 1, (.c (.int .u32 (.lit 0)))), (6, 1, (.c (.int .i64 (.lit 7))))])), none⟩, ⟨(some 46), (.p (.build [(.int .i64 (.lit 0)), (.str ⟨#[]⟩), (.int .i64 (.lit 0)), (.int .u32 (.lit 0)), (.int .u32 (.lit 0)), (.int .u32 (.lit 0)), (.int .i64 (.lit 0))] [(0, 1, (.c (.int .i64 (.lit 46)))), (1, 1, (.c (.str ⟨#[99, 115, 114, 114, 115]⟩))), (2, 1, (.c (.int .i64 (.lit 10)))), (3, 1, (.c (.int .u32 (.lit 115)))), (4, 1, (.c (.int .u32 (.lit 2)))), (5, 1, (.c (.int .u32 (.lit 0)))), (6, 1, (.c (.int .i64 (.lit 7))))])), none⟩, ⟨(some 47), (.p (.build [(.int .i64 (.lit 0)), (.str ⟨#[]⟩), (.int .i64 (.lit 0)), (.int .u32 (.lit 0)), (.int .u32 (.lit 0)), (.int .u32 (.lit 0)), (.int .i64 (.lit 0))] [(0, 1, (.c (.int .i64 (.lit 47)))), (1, 1, (.c (.str ⟨#[99, 115, 114, 114, 99]⟩))), (2, 1, (.c (.int .i64 (.lit 10)))), (3, 1, (.c (.int .u32 (.lit 115)))), (4, 1, (.c (.int .u32 (.lit 3)))), (5, 1, (.c (.int .u32 (.lit 0)))), (6, 1, (.c (.int .i64 (.lit 7))))])), none⟩, ⟨(some 48), (.p (.build [(.int .i64 (.lit 0)), (.str ⟨#[]⟩), (.int .i64 (.lit 0)), (.int .u32 (.lit 0)), (.int .u32 (.lit 0)), (.int .u32 (.lit 0)), (.int .i64 (.lit 0))] [(0, 1, (.c (.int .i64 (.lit 48)))), (1, 1, (.c (.str ⟨#[99, 115, 114, 114, 119, 105]⟩))), (2, 1, (.c (.int .i64 (.lit 11)))), (3, 1, (.c (.int .u32 (.lit 115)))), (4, 1, (.c (.int .u32 (.lit 5)))), (5, 1, (.c (.int .u32 (.lit 0)))), (6, 1, (.c (.int .i64 (.lit 7))))])), none⟩, ⟨(some 49), (.p (.build [(.int .i64 (.lit 0)), (.str ⟨#[]⟩), (.int .i64 (.lit 0)), (.int .u32 (.lit 0)), (.int .u32 (.lit 0)), (.int .u32 (.lit 0)), (.int .i64 (.lit 0))] [(0, 1, (.c (.int .i64 (.lit 49)))), (1, 1, (.c (.str ⟨#[99, 115, 114, 114, 115, 105]⟩))), (2, 1, (.c (.int .i64 (.lit 11)))), (3, 1, (.c (.int .u32 (.lit 115)))), (4, 1, (.c (.int .u32 (.lit 6)))), (5, 1, (.c (.int .u32 (.lit 0)))), (6, 1, (.c (.int .i64 (.lit 7))))])), none⟩, ⟨(some 50), (.p (.build [(.int .i64 (.lit 0)), (.str ⟨#[]⟩), (.int .i64 (.lit 0)), (.int .u32 (.lit 0)), (.int .u32 (.lit 0)), (.int .u32 (.lit 0)), (.int .i64 (.lit 0))] [(0, 1, (.c (.int .i64 (.lit 50)))), (1, 1, (.c (.str ⟨#[99, 115, 114, 114, 99, 105]⟩))), (2, 1, (.c (.int .i64 (.lit 11)))), (3, 1, (.c (.int .u32 (.lit 115)))), (4, 1, (.c (.int .u32 (.lit 7)))), (5, 1, (.c (.int .u32 (.lit 0)))), (6, 1, (.c (.int .i64 (.lit 7))))])), none⟩, ⟨(some 51), (.p (.build [(.int .i64 (.lit 0)), (.str ⟨#[]⟩), (.int .i64 (.lit 0)), (.int .u32 (.lit 0)), (.int .u32 (.lit 0)), (.int .u32 (.lit 0)), (.int .i64 (.lit 0))] [(0, 1, (.c (.int .i64 (.lit 51)))), (1, 1, (.c (.str ⟨#[109, 117, 108]⟩))), (2, 1, (.c (.int .i64 (.lit 6)))), (3, 1, (.c (.int .u32 (.lit 51)))), (4, 1, (.c (.int .u32 (.lit 0)))), (5, 1, (.c (.int .u32 (.lit 1)))), (6, 1, (.c (.int .i64 (.lit 1))))])), none⟩, ⟨(some 52), (.p (.build [(.int .i64 (.lit 0)), (.str ⟨#[]⟩), (.int .i64 (.lit 0)), (.int .u32 (.lit 0)), (.int .u32 (.lit 0)), (.int .u32 (.lit 0)), (.int .i64 (.lit 0))] [(0, 1, (.c (.int .i64 (.lit 52)))), (1, 1, (.c (.str ⟨#[109, 117, 108, 104]⟩))), (2, 1, (.c (.int .i64 (.lit 6)))), (3, 1, (.c (.int .u32 (.lit 51)))), (4, 1, (.c (.int .u32 (.lit 1)))), (5, 1, (.c (.int .u32 (.lit 1)))), (6, 1, (.c (.int .i64 (.lit 1))))])), none⟩, ⟨(some 53), (.p (.build [(.int .i64 (.lit 0)), (.str ⟨#[]⟩), (.int .i64 (.lit 0)), (.int .u32 (.lit 0)), (.int .u32 (.lit 0)), (.int .u32 (.lit 0)), (.int .i64 (.lit 0))] [(0, 1, (.c (.int .i64 (.lit 53)))), (1, 1, (.c (.str ⟨#[109, 117, 108, 104, 115, 117]⟩))), (2, 1, (.c (.int .i64 (.lit 6)))), (3, 1, (.c (.int .u32 (.lit 51)))), (4, 1, (.c (.int .u32 (.lit 2)))), (5, 1, (.c (.int .u32 (.lit 1)))), (6, 1, (.c (.int .i64 (.lit 1))))])), none⟩, ⟨(some 54), (.p (.build [(.int .i64 (.lit 0)), (.str ⟨#[]⟩), (.int .i64 (.lit 0)), (.int .u32 (.lit 0)), (.int .u32 (.lit 0)), (.int .u32 (.lit 0)), (.int .i64 (.lit 0))] [(0, 1, (.c (.int .i64 (.lit 54)))), (1, 1, (.c (.str ⟨#[109, 117, 108, 104, 117]⟩))), (2, 1, (.c (.int .i64 (.lit 6)))), (3, 1, (.c (.int .u32 (.lit 51)))), (4, 1, (.c (.int .u32 (.lit 3)))), (5, 1, (.c (.int .u32 (.lit 1)))), (6, 1, (.c (.int .i64 (.lit 1))))])), none⟩, ⟨(some 55), (.p (.build [(.int .i64 (.lit 0)), (.str ⟨#[]⟩), (.int .i64 (.lit 0)), (.int .u32 (.lit 0)), (.int .u32 (.lit 0)), (.int .u32 (.lit 0)), (.int .i64 (.lit 0))] [(0, 1, (.c (.int .i64 (.lit 55)))), (1, 1, (.c (.str ⟨#[100, 105, 118]⟩))), (2, 1, (.c (.int .i64 (.lit 6)))), (3, 1, (.c (.int .u32 (.lit 51)))), (4, 1, (.c (.int .u32 (.lit 4)))), (5, 1, (.c (.int .u32 (.lit 1)))), (6, 1, (.c (.int .i64 (.lit 1))))])), none⟩, ⟨(some 56), (.p (.build [(.int .i64 (.lit 0)), (.str ⟨#[]⟩), (.int .i64 (.lit 0)), (.int .u32 (.lit 0)), (.int .u32 (.lit 0)), (.int .u32 (.lit 0)), (.int .i64 (.lit 0))] [(0, 1, (.c (.int .i64 (.lit 56)))), (1, 1, (.c (.str ⟨#[100, 105, 118, 117]⟩))), (2, 1, (.c (.int .i64 (.lit 6)))), (3, 1, (.c (.int .u32 (.lit 51)))), (4, 1, (.c (.int .u32 (.lit 5)))), (5, 1, (.c (.int .u32 (.lit 1)))), (6, 1, (.c (.int .i64 (.lit 1))))])), none⟩, ⟨(some 57), (.p (.build [(.int .i64 (.lit 0)), (.str ⟨#[]⟩), (.int .i64 (.lit 0)), (.int .u32 (.lit 0)), (.int .u32 (.lit 0)), (.int .u32 (.lit 0)), (.int .i64 (.lit 0))] [(0, 1, (.c (.int .i64 (.lit 57)))), (1, 1, (.c (.str ⟨#[114, 101, 109]⟩))), (2, 1, (.c (.int .i64 (.lit 6)))), (3, 1, (.c (.int .u32 (.lit 51)))), (4, 1, (.c (.int .u32 (.lit 6)))), (5, 1, (.c (.int .u32 (.lit 1)))), (6, 1, (.c (.int .i64 (.lit 1))))])), none⟩, ⟨(some 58), (.p (.build [(.int .i64 (.lit 0)), (.str ⟨#[]⟩), (.int .i64 (.lit 0)), (.int .u32 (.lit 0)), (.int .u32 (.lit 0)), (.int .u32 (.lit 0)), (.int .i64 (.lit 0))] [(0, 1, (.c (.int .i64 (.lit 58)))), (1, 1, (.c (.str ⟨#[114, 101, 109, 117]⟩))), (2, 1, (.c (.int .i64 (.lit 6)))), (3, 1, (.c (.int .u32 (.lit 51)))), (4, 1, (.c (.int .u32 (.lit 7)))), (5, 1, (.c (.int .u32 (.lit 1)))), (6, 1, (.c (.int .i64 (.lit 1))))])), none⟩, ⟨(some 59), (.p (.build [(.int .i64 (.lit 0)), (.str ⟨#[]⟩), (.int .i64 (.lit 0)), (.int .u32 (.lit 0)), (.int .u32 (.lit 0)), (.int .u32 (.lit 0)), (.int .i64 (.lit 0))] [(0, 1, (.c (.int .i64 (.lit 59)))), (1, 1, (.c (.str ⟨#[108, 114, 46, 119]⟩))), (2, 1, (.c (.int .i64 (.lit 12)))), (3, 1, (.c (.int .u32 (.lit 47)))), (4, 1, (.c (.int .u32 (.lit 2)))), (5, 1, (.c (.int .u32 (.lit 2)))), (6, 1, (.c (.int .i64 (.lit 4))))])), none⟩, ⟨(some 60), (.p (.build [(.int .i64 (.lit 0)), (.str ⟨#[]⟩), (.int .i64 (.lit 0)), (.int .u32 (.lit 0)), (.int .u32 (.lit 0)), (.int .u32 (.lit 0)), (.int .i64 (.lit 0))] [(0, 1, (.c (.int .i64 (.lit 60)))), (1, 1, (.c (.str ⟨#[115, 99, 46, 119]⟩))), (2, 1, (.c (.int .i64 (.lit 13)))), (3, 1, (.c (.int .u32 (.lit 47)))), (4, 1, (.c (.int .u32 (.lit 2)))), (5, 1, (.c (.int .u32 (.lit 3)))), (6, 1, (.c (.int .i64 (.lit 6))))])), none⟩, ⟨(some 61), (.p (.build [(.int .i64 (.lit 0)), (.str ⟨#[]⟩), (.int .i64 (.lit 0)), (.int .u32 (.lit 0)), (.int .u32 (.lit 0)), (.int .u32 (.lit 0)), (.int .i64 (.lit 0))] [(0, 1, (.c (.int .i64 (.lit 61)))), (1, 1, (.c (.str ⟨#[97, 109, 111, 115, 119, 97, 112, 46, 119]⟩))), (2, 1, (.c (.int .i64 (.lit 13)))), (3, 1, (.c (.int .u32 (.lit 47)))), (4, 1, (.c (.int .u32 (.lit 2)))), (5, 1, (.c (.int .u32 (.lit 1)))), (6, 1, (.c (.int .i64 (.lit 6))))])), none⟩, ⟨(some 62), (.p (.build [(.int .i64 (.lit 0)), (.str ⟨#[]⟩), (.int .i64 (.lit 0)), (.int .u32 (.lit 0)), (.int .u32 (.lit 0)), (.int .u32 (.lit 0)), (.int .i64 (.lit 0))] [(0, 1, (.c (.int .i64 (.lit 62)))), (1, 1, (.c (.str ⟨#[97, 109, 111, 97, 100, 100, 46, 119]⟩))), (2, 1, (.c (.int .i64 (.lit 13)))), (3, 1, (.c (.int .u32 (.lit 47)))), (4, 1, (.c (.int .u32 (.lit 2)))), (5, 1, (.c (.int .u32 (.lit 0)))), (6, 1, (.c (.int .i64 (.lit 6))))])), none⟩, ⟨(some 63), (.p (.build [(.int .i64 (.lit 0)), (.str ⟨#[]⟩), (.int .i64 (.lit 0)), (.int .u32 (.lit 0)), (.int .u32 (.lit 0)), (.int .u32 (.lit 0)), (.int .i64 (.lit 0))] [(0, 1, (.c (.int .i64 (.lit 63)))), (1, 1, (.c (.str ⟨#[97, 109, 111, 120, 111, 114, 46, 119]⟩))), (2, 1, (.c (.int .i64 (.lit 13)))), (3, 1, (.c (.int .u32 (.lit 47)))), (4, 1, (.c (.int .u32 (.lit 2)))), (5, 1, (.c (.int .u32 (.lit 4)))), (6, 1, (.c (.int .i64 (.lit 6))))])), none⟩, ⟨(some 64), (.p (.build [(.int .i64 (.lit 0)), (.str ⟨#[]⟩), (.int .i64 (.lit 0)), (.int .u32 (.lit 0)), (.int .u32 (.lit 0)), (.int .u32 (.lit 0)), (.int .i64 (.lit 0))] [(0, 1, (.c (.int .i64 (.lit 64)))), (1, 1, (.c (.str ⟨#[97, 109, 111, 97, 110, 100, 46, 119]⟩))), (2, 1, (.c (.int .i64 (.lit 13)))), (3, 1, (.c (.int .u32 (.lit 47)))), (4, 1, (.c (.int .u32 (.lit 2)))), (5, 1, (.c (.int .u32 (.lit 12)))), (6, 1, (.c (.int .i64 (.lit 6))))])), none⟩, ⟨(some 65), (.p (.build [(.int .i64 (.lit 0)), (.str ⟨#[]⟩), (.int .i64 (.lit 0)), (.int .u32 (.lit 0)), (.int .u32 (.lit 0)), (.int .u32 (.lit 0)), (.int .i64 (.lit 0))] [(0, 1, (.c (.int .i64 (.lit 65)))), (1, 1, (.c (.str ⟨#[97, 109, 111, 111, 114, 46, 119]⟩))), (2, 1, (.c (.int .i64 (.lit 13)))), (3, 1, (.c (.int .u32 (.lit 47)))), (4, 1, (.c (.int .u32 (.lit 2)))), (5, 1, (.c (.int .u32 (.lit 8)))), (6, 1, (.c (.int .i64 (.lit 6))))])), none⟩, ⟨(some 66), (.p (.build [(.int .i64 (.lit 0)), (.str ⟨#[]⟩), (.int .i64 (.lit 0)), (.int .u32 (.lit 0)), (.int .u32 (.lit 0)), (.int .u32 (.lit 0)), (.int .i64 (.lit 0))] [(0, 1, (.c (.int .i64 (.lit 66)))), (1, 1, (.c (.str ⟨#[97, 109, 111, 109, 105, 110, 46, 119]⟩))), (2, 1, (.c (.int .i64 (.lit 13)))), (3, 1, (.c (.int .u32 (.lit 47)))), (4, 1, (.c (.int .u32 (.lit 2)))), (5, 1, (.c (.int .u32 (.lit 16)))), (6, 1, (.c (.int .i64 (.lit 6))))])), none⟩, ⟨(some 67), (.p (.build [(.int .i64 (.lit 0)), (.str ⟨#[]⟩), (.int .i64 (.lit 0)), (.int .u32 (.lit 0)), (.int .u32 (.lit 0)), (.int .u32 (.lit 0)), (.int .i64 (.lit 0))] [(0, 1, (.c (.int .i64 (.lit 67)))), (1, 1, (.c (.str ⟨#[97, 109, 111, 109, 97, 120, 46, 119]⟩))), (2, 1, (.c (.int .i64 (.lit 13)))), (3, 1, (.c (.int .u32 (.lit 47)))), (4, 1, (.c (.int .u32 (.lit 2)))), (5, 1, (.c (.int .u32 (.lit 20)))), (6, 1, (.c (.int .i64 (.lit 6))))])), none⟩, ⟨(some 68), (.p (.build [(.int .i64 (.lit 0)), (.str ⟨#[]⟩), (.int .i64 (.lit 0)), (.int .u32 (.lit 0)), (.int .u32 (.lit 0)), (.int .u32 (.lit 0)), (.int .i64 (.lit 0))] [(0, 1, (.c (.int .i64 (.lit 68)))), (1, 1, (.c (.str ⟨#[97, 109, 111, 109, 105, 110, 117, 46, 119]⟩))), (2, 1, (.c (.int .i64 (.lit 13)))), (3, 1, (.c (.int .u32 (.lit 47)))), (4, 1, (.c (.int .u32 (.lit 2)))), (5, 1, (.c (.int .u32 (.lit 24)))), (6, 1, (.c (.int .i64 (.lit 6))))])), none⟩, ⟨(some 69), (.p (.build [(.int .i64 (.lit 0)), (.str ⟨#[]⟩), (.int .i64 (.lit 0)), (.int .u32 (.lit 0)), (.int .u32 (.lit 0)), (.int .u32 (.lit 0)), (.int .i64 (.lit 0))] [(0, 1, (.c (.int .i64 (.lit 69)))), (1, 1, (.c (.str ⟨#[97, 109, 111, 109, 97, 120, 117, 46, 119]⟩))), (2, 1, (.c (.int .i64 (.lit 13)))), (3, 1, (.c (.int .u32 (.lit 47)))), (4, 1, (.c (.int .u32 (.lit 2)))), (5, 1, (.c (.int .u32 (.lit 28)))), (6, 1, (.c (.int .i64 (.lit 6))))])), none⟩, ⟨(some 70), (.mkArr 7 69 [(.int .i64 (.lit 0)), (.str ⟨#[]⟩), (.int .i64 (.lit 0)), (.int .u32 (.lit 0)), (.int .u32 (.lit 0)), (.int .u32 (.lit 0)), (.int .i64 (.lit 0))] [(0, 7, (.t 1)), (7, 7, (.t 2)), (14, 7, (.t 3)), (21, 7, (.t 4)), (28, 7, (.t 5)), (35, 7, (.t 6)), (42, 7, (.t 7)), (49, 7, (.t 8)), (56, 7, (.t 9)), (63, 7, (.t 10)), (70, 7, (.t 11)), (77, 7, (.t 12)), (84, 7, (.t 13)), (91, 7, (.t 14)), (98, 7, (.t 15)), (105, 7, (.t 16)), (112, 7, (.t 17)), (119, 7, (.t 18)), (126, 7, (.t 19)), (133, 7, (.t 20)), (140, 7, (.t 21)), (147, 7, (.t 22)), (154, 7, (.t 23)), (161, 7, (.t 24)), (168, 7, (.t 25)), (175, 7, (.t 26)), (182, 7, (.t 27)), (189, 7, (.t 28)), (196, 7, (.t 29)), (203, 7, (.t 30)), (210, 7, (.t 31)), (217, 7, (.t 32)), (224, 7, (.t 33)), (231, 7, (.t 34)), (238, 7, (.t 35)), (245, 7, (.t 36)), (252, 7, (.t 37)), (259, 7, (.t 38)), (266, 7, (.t 39)), (273, 7, (.t 40)), (280, 7, (.t 41)), (287, 7, (.t 42)), (294, 7, (.t 43)), (301, 7, (.t 44)), (308, 7, (.t 45)), (315, 7, (.t 46)), (322, 7, (.t 47)), (329, 7, (.t 48)), (336, 7, (.t 49)), (343, 7, (.t 50)), (350, 7, (.t 51)), (357, 7, (.t 52)), (364, 7, (.t 53)), (371, 7, (.t 54)), (378, 7, (.t 55)), (385, 7, (.t 56)), (392, 7, (.t 57)), (399, 7, (.t 58)), (406, 7, (.t 59)), (413, 7, (.t 60)), (420, 7, (.t 61)), (427, 7, (.t 62)), (434, 7, (.t 63)), (441, 7, (.t 64)), (448, 7, (.t 65)), (455, 7, (.t 66)), (462, 7, (.t 67)), (469, 7, (.t 68)), (476, 7, (.t 69))]), none⟩, ⟨(some 0), (.p (.mv (.t 70))), none⟩])
 .ret))⟩
def F : Nat → Option AFunc
  | 12 => some af12
  | 29 => some af29
  | 31 => some af31
  | 32 => some af32
  | 33 => some af33
  | 34 => some af34
  | 35 => some af35
  | 36 => some af36
  | 37 => some af37
  | 38 => some af38
  | 39 => some af39
  | 40 => some af40
  | 41 => some af41
  | 42 => some af42
  | 58 => some af58
  | 59 => some af59
  | 60 => some af60
  | 61 => some af61
  | 62 => some af62
  | 63 => some af63
  | 64 => some af64
  | 65 => some af65
  | 66 => some af66
  | 67 => some af67
  | 68 => some af68
  | 69 => some af69
  | 70 => some af70
  | 71 => some af71
  | 72 => some af72
  | 73 => some af73
  | 74 => some af74
  | 75 => some af75
  | 76 => some af76
  | 77 => some af77
  | 78 => some af78
  | 79 => some af79
  | 82 => some af82
  | 83 => some af83
  | 84 => some af84
  | 85 => some af85
  | 87 => some af87
  | _ => none
theorem cf12 : cFunc Try.prog 12 = some af12 := by kernel_rfl
theorem cf29 : cFunc Try.prog 29 = some af29 := by kernel_rfl
theorem cf31 : cFunc Try.prog 31 = some af31 := by kernel_rfl
theorem cf32 : cFunc Try.prog 32 = some af32 := by kernel_rfl
theorem cf33 : cFunc Try.prog 33 = some af33 := by kernel_rfl
theorem cf34 : cFunc Try.prog 34 = some af34 := by kernel_rfl
theorem cf35 : cFunc Try.prog 35 = some af35 := by kernel_rfl
theorem cf36 : cFunc Try.prog 36 = some af36 := by kernel_rfl
theorem cf37 : cFunc Try.prog 37 = some af37 := by kernel_rfl
theorem cf38 : cFunc Try.prog 38 = some af38 := by kernel_rfl
theorem cf39 : cFunc Try.prog 39 = some af39 := by kernel_rfl
theorem cf40 : cFunc Try.prog 40 = some af40 := by kernel_rfl
theorem cf41 : cFunc Try.prog 41 = some af41 := by kernel_rfl
theorem cf42 : cFunc Try.prog 42 = some af42 := by kernel_rfl
theorem cf58 : cFunc Try.prog 58 = some af58 := by kernel_rfl
theorem cf59 : cFunc Try.prog 59 = some af59 := by kernel_rfl
theorem cf60 : cFunc Try.prog 60 = some af60 := by kernel_rfl
theorem cf61 : cFunc Try.prog 61 = some af61 := by kernel_rfl
theorem cf62 : cFunc Try.prog 62 = some af62 := by kernel_rfl
theorem cf63 : cFunc Try.prog 63 = some af63 := by kernel_rfl
theorem cf64 : cFunc Try.prog 64 = some af64 := by kernel_rfl
theorem cf65 : cFunc Try.prog 65 = some af65 := by kernel_rfl
theorem cf66 : cFunc Try.prog 66 = some af66 := by kernel_rfl
theorem cf67 : cFunc Try.prog 67 = some af67 := by kernel_rfl
theorem cf68 : cFunc Try.prog 68 = some af68 := by kernel_rfl
theorem cf69 : cFunc Try.prog 69 = some af69 := by kernel_rfl
theorem cf70 : cFunc Try.prog 70 = some af70 := by kernel_rfl
theorem cf71 : cFunc Try.prog 71 = some af71 := by kernel_rfl
theorem cf72 : cFunc Try.prog 72 = some af72 := by kernel_rfl
theorem cf73 : cFunc Try.prog 73 = some af73 := by kernel_rfl
theorem cf74 : cFunc Try.prog 74 = some af74 := by kernel_rfl
theorem cf75 : cFunc Try.prog 75 = some af75 := by kernel_rfl
theorem cf76 : cFunc Try.prog 76 = some af76 := by kernel_rfl
theorem cf77 : cFunc Try.prog 77 = some af77 := by kernel_rfl
theorem cf78 : cFunc Try.prog 78 = some af78 := by kernel_rfl
theorem cf79 : cFunc Try.prog 79 = some af79 := by kernel_rfl
theorem cf82 : cFunc Try.prog 82 = some af82 := by kernel_rfl
theorem cf83 : cFunc Try.prog 83 = some af83 := by kernel_rfl
theorem cf84 : cFunc Try.prog 84 = some af84 := by kernel_rfl
theorem cf85 : cFunc Try.prog 85 = some af85 := by kernel_rfl
theorem cf87 : cFunc Try.prog 87 = some af87 := by kernel_rfl
theorem hF : ∀ f af, F f = some af → cFunc Try.prog f = some af := by
  intro f af h
  unfold F at h
  split at h
  · cases h; exact cf12
  · cases h; exact cf29
  · cases h; exact cf31
  · cases h; exact cf32
  · cases h; exact cf33
  · cases h; exact cf34
  · cases h; exact cf35
  · cases h; exact cf36
  · cases h; exact cf37
  · cases h; exact cf38
  · cases h; exact cf39
  · cases h; exact cf40
  · cases h; exact cf41
  · cases h; exact cf42
  · cases h; exact cf58
  · cases h; exact cf59
  · cases h; exact cf60
  · cases h; exact cf61
  · cases h; exact cf62
  · cases h; exact cf63
  · cases h; exact cf64
  · cases h; exact cf65
  · cases h; exact cf66
  · cases h; exact cf67
  · cases h; exact cf68
  · cases h; exact cf69
  · cases h; exact cf70
  · cases h; exact cf71
  · cases h; exact cf72
  · cases h; exact cf73
  · cases h; exact cf74
  · cases h; exact cf75
  · cases h; exact cf76
  · cases h; exact cf77
  · cases h; exact cf78
  · cases h; exact cf79
  · cases h; exact cf82
  · cases h; exact cf83
  · cases h; exact cf84
  · cases h; exact cf85
  · cases h; exact cf87
  · cases h
theorem mixed : Try.prog.follows .mixedOrders = true := Try.checked.mixed
def doorH : Hp := hpE
theorem doorH_ok : doorOK doorH = true := by kernel_rfl
def G : Nat → Option Nat := fun _ => none
theorem G_lt : ∀ g id, G g = some id → id < doorH.sz := fun g id h => by cases h
end Go.Proofs.Ytagaclifeoiepaa.aluSays

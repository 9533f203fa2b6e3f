/- The functions that AluGoes comes to, as the symbolic machine runs them, each held against the program's. No condition. -/
import Derived.Test.YtagaclifeoiepabRows
import Derived.Test.YtagaclifeoiepabSyDoor
import Derived.Test.YtagaclifeoiepabSyUse
namespace Go.Proofs.Ytagaclifeoiepab.aluGoes
open Go.Sx
set_option linter.unusedVariables false
set_option linter.unusedSimpArgs false
set_option maxRecDepth 1000000
/- corral/corrallaw4.AluGoes -/
def af3 : AFunc := ⟨67, [.t 8],
 (.seq (.reg [⟨(some 8), (.p (.mv (.c (.bool (.lit false))))), none⟩])
 (.seq (.reg [⟨(some 16), (.call (.f 4) []), none⟩, ⟨(some 9), (.p (.mv (.t 16))), none⟩])
 (.seq (.seq (.reg [⟨(some 17), (.p (.mv (.t 9))), none⟩, ⟨(some 18), (.p (.un .not (.t 17))), none⟩])
 (.cond (.t 18) (.seq (.reg [⟨(some 8), (.p (.mv (.c (.bool (.lit false))))), none⟩])
 .ret)
 .skip))
 (.seq (.reg [⟨(some 20), (.p (.mv (.t 0))), none⟩, ⟨(some 21), (.call (.f 5) [(.t 20)]), none⟩, ⟨(some 19), (.p (.mv (.t 21))), none⟩, ⟨(some 22), (.p (.extract 0 (.t 19))), none⟩, ⟨(some 23), (.p (.extract 1 (.t 19))), none⟩, ⟨(some 10), (.newC [(.int .i64 (.lit 0)), (.int .i64 (.lit 0)), (.int .i64 (.lit 0)), (.int .i64 (.lit 0)), (.int .i64 (.lit 0)), (.int .u32 (.lit 0)), (.bool (.lit false)), (.bool (.lit false))]), none⟩, ⟨none, (.store 8 (.t 10) (.t 22)), none⟩, ⟨(some 11), (.p (.mv (.t 23))), none⟩])
 (.seq (.seq (.reg [⟨(some 24), (.p (.mv (.t 11))), none⟩, ⟨(some 25), (.p (.un .not (.t 24))), none⟩])
 (.cond (.t 25) (.seq (.reg [⟨(some 26), (.p (.mv (.t 9))), none⟩, ⟨(some 8), (.p (.mv (.t 26))), none⟩])
 .ret)
 .skip))
 (.seq (.reg [⟨(some 28), (.load true 8 (.t 10)), none⟩, ⟨(some 29), (.p (.mv (.t 1))), none⟩, ⟨(some 30), (.p (.mv (.t 2))), none⟩, ⟨(some 31), (.p (.mv (.t 3))), none⟩, ⟨(some 32), (.call (.f 6) [(.t 28), (.t 29), (.t 30), (.t 31)]), none⟩, ⟨(some 27), (.p (.mv (.t 32))), none⟩, ⟨(some 33), (.p (.extract 0 (.t 27))), none⟩, ⟨(some 34), (.p (.extract 1 (.t 27))), none⟩, ⟨(some 12), (.p (.mv (.t 33))), none⟩, ⟨(some 13), (.p (.mv (.t 34))), none⟩])
 (.seq (.reg [⟨(some 36), (.load true 8 (.t 10)), none⟩, ⟨(some 37), (.p (.mv (.t 1))), none⟩, ⟨(some 38), (.p (.mv (.t 2))), none⟩, ⟨(some 39), (.p (.mv (.t 3))), none⟩, ⟨(some 40), (.call (.f 7) [(.t 36), (.t 37), (.t 38), (.t 39)]), none⟩, ⟨(some 35), (.p (.mv (.t 40))), none⟩, ⟨(some 41), (.p (.extract 0 (.t 35))), none⟩, ⟨(some 42), (.p (.extract 1 (.t 35))), none⟩, ⟨(some 14), (.p (.mv (.t 41))), none⟩, ⟨(some 15), (.p (.mv (.t 42))), none⟩])
 (.seq (.draw [(⟨(some 43), (.p (.mv (.t 9))), none⟩, []), (⟨(some 44), (.p (.mv (.t 43))), none⟩, []), (⟨(some 45), (.p (.mv (.t 12))), (some (44, true))⟩, []), (⟨(some 46), (.p (.mv (.t 14))), (some (44, true))⟩, []), (⟨(some 47), (.p (.bin 0 .eql (.t 45) (.t 46))), (some (44, true))⟩, []), (⟨(some 48), (.pick (.t 44) (.t 47) (.c (.bool (.lit false)))), none⟩, []), (⟨(some 49), (.p (.mv (.t 48))), none⟩, []), (⟨(some 50), (.p (.mv (.t 13))), (some (49, true))⟩, []), (⟨(some 51), (.p (.mv (.t 15))), (some (49, true))⟩, []), (⟨(some 52), (.p (.bin 1 .eql (.t 50) (.t 51))), (some (49, true))⟩, []), (⟨(some 53), (.pick (.t 49) (.t 52) (.c (.bool (.lit false)))), none⟩, []), (⟨(some 54), (.p (.mv (.t 53))), none⟩, []), (⟨(some 55), (.load true 8 (.t 10)), (some (54, true))⟩, []), (⟨(some 56), (.p (.mv (.t 1))), (some (54, true))⟩, []), (⟨(some 57), (.p (.mv (.t 2))), (some (54, true))⟩, []), (⟨(some 58), (.p (.mv (.t 3))), (some (54, true))⟩, []), (⟨(some 59), (.call (.f 8) [(.t 55), (.t 56), (.t 57), (.t 58)]), (some (54, true))⟩, []), (⟨(some 60), (.load true 8 (.t 10)), (some (54, true))⟩, [16]), (⟨(some 61), (.p (.mv (.t 1))), (some (54, true))⟩, []), (⟨(some 62), (.p (.mv (.t 2))), (some (54, true))⟩, []), (⟨(some 63), (.p (.mv (.t 3))), (some (54, true))⟩, []), (⟨(some 64), (.call (.f 9) [(.t 60), (.t 61), (.t 62), (.t 63)]), (some (54, true))⟩, []), (⟨(some 65), (.p (.bin 0 .eql (.t 59) (.t 64))), (some (54, true))⟩, []), (⟨(some 66), (.pick (.t 54) (.t 65) (.c (.bool (.lit false)))), none⟩, []), (⟨(some 8), (.p (.mv (.t 66))), none⟩, [])])
 .ret))))))))⟩
/- corral/corrallaw4.first -/
def af4 : AFunc := ⟨29, [.t 0],
 (.seq (.reg [⟨(some 0), (.p (.mv (.c (.bool (.lit false))))), none⟩])
 (.seq (.reg [⟨(some 6), (.call (.f 10) [(.c (.int .i64 (.lit 35))), (.c (.int .u32 (.lit 2147483648))), (.c (.int .u32 (.lit 33)))]), none⟩, ⟨(some 5), (.p (.mv (.t 6))), none⟩, ⟨(some 7), (.p (.extract 0 (.t 5))), none⟩, ⟨(some 8), (.p (.extract 1 (.t 5))), none⟩, ⟨(some 1), (.p (.mv (.t 7))), none⟩, ⟨(some 2), (.p (.mv (.t 8))), none⟩])
 (.seq (.reg [⟨(some 10), (.call (.f 11) [(.c (.int .i64 (.lit 67))), (.c (.int .u32 (.lit 4294967295))), (.c (.int .u32 (.lit 1)))]), none⟩, ⟨(some 9), (.p (.mv (.t 10))), none⟩, ⟨(some 11), (.p (.extract 0 (.t 9))), none⟩, ⟨(some 12), (.p (.extract 1 (.t 9))), none⟩, ⟨(some 3), (.p (.mv (.t 11))), none⟩, ⟨(some 4), (.p (.mv (.t 12))), none⟩])
 (.seq (.reg [⟨(some 13), (.p (.mv (.t 1))), none⟩, ⟨(some 14), (.p (.bin 0 .eql (.t 13) (.c (.int .u32 (.lit 3221225472))))), none⟩, ⟨(some 15), (.p (.mv (.t 14))), none⟩, ⟨(some 16), (.p (.mv (.t 2))), (some (15, true))⟩, ⟨(some 17), (.pick (.t 15) (.t 16) (.c (.bool (.lit false)))), none⟩, ⟨(some 18), (.p (.mv (.t 17))), none⟩, ⟨(some 19), (.call (.f 12) [(.c (.int .i64 (.lit 11))), (.c (.int .u32 (.lit 128)))]), (some (18, true))⟩, ⟨(some 20), (.p (.bin 0 .eql (.t 19) (.c (.int .u32 (.lit 4294967168))))), (some (18, true))⟩, ⟨(some 21), (.pick (.t 18) (.t 20) (.c (.bool (.lit false)))), none⟩, ⟨(some 22), (.p (.mv (.t 21))), none⟩, ⟨(some 23), (.p (.mv (.t 3))), (some (22, true))⟩, ⟨(some 24), (.p (.bin 0 .eql (.t 23) (.c (.int .u32 (.lit 1))))), (some (22, true))⟩, ⟨(some 25), (.pick (.t 22) (.t 24) (.c (.bool (.lit false)))), none⟩, ⟨(some 26), (.p (.mv (.t 25))), none⟩, ⟨(some 27), (.p (.mv (.t 4))), (some (26, true))⟩, ⟨(some 28), (.pick (.t 26) (.t 27) (.c (.bool (.lit false)))), none⟩, ⟨(some 0), (.p (.mv (.t 28))), none⟩])
 .ret))))⟩
/- corral/isa.Decode -/
def af5 : AFunc := ⟨20, [.cell 2 true 8, .t 3],
 (.seq (.reg [⟨(some 2), (.newC [(.int .i64 (.lit 0)), (.int .i64 (.lit 0)), (.int .i64 (.lit 0)), (.int .i64 (.lit 0)), (.int .i64 (.lit 0)), (.int .u32 (.lit 0)), (.bool (.lit false)), (.bool (.lit false))]), none⟩, ⟨(some 3), (.p (.mv (.c (.bool (.lit false))))), none⟩])
 (.seq (.seq (.reg [⟨(some 6), (.call (.f 13) []), none⟩, ⟨(some 7), (.p (.lenS (.t 6))), none⟩, ⟨(some 8), (.p (.mv (.c (.int .i64 (.lit 0))))), none⟩])
 (.block 0 (.loop (.seq (.reg [⟨(some 9), (.p (.bin 0 .lss (.t 8) (.t 7))), none⟩])
 (.seq (.cond (.t 9) .skip
 (.exit 0))
 (.seq (.block 1 (.seq (.reg [⟨(some 10), (.p (.idxSl 7 (.t 6) (.t 8))), none⟩, ⟨(some 11), (.load true 7 (.t 10)), none⟩, ⟨(some 5), (.newC [(.int .i64 (.lit 0)), (.str ⟨#[]⟩), (.int .i64 (.lit 0)), (.int .u32 (.lit 0)), (.int .u32 (.lit 0)), (.int .u32 (.lit 0)), (.int .i64 (.lit 0))]), none⟩, ⟨none, (.store 7 (.t 5) (.t 11)), none⟩])
 (.seq (.reg [⟨(some 12), (.load true 7 (.t 5)), none⟩, ⟨(some 13), (.p (.mv (.t 0))), none⟩, ⟨(some 14), (.call (.f 14) [(.t 12), (.t 13)]), none⟩])
 (.cond (.t 14) (.seq (.reg [⟨(some 15), (.load true 7 (.t 5)), none⟩, ⟨(some 16), (.p (.mv (.t 0))), none⟩, ⟨(some 17), (.call (.f 15) [(.t 15), (.t 16)]), none⟩, ⟨none, (.store 8 (.t 2) (.t 17)), none⟩, ⟨(some 3), (.p (.mv (.c (.bool (.lit true))))), none⟩])
 .ret)
 .skip))))
 (.reg [⟨(some 18), (.p (.bin 0 .add (.t 8) (.c (.int .i64 (.lit 1))))), none⟩, ⟨(some 8), (.p (.mv (.t 18))), none⟩])))))))
 (.seq (.reg [⟨(some 19), (.p (.build [(.int .i64 (.lit 0)), (.int .i64 (.lit 0)), (.int .i64 (.lit 0)), (.int .i64 (.lit 0)), (.int .i64 (.lit 0)), (.int .u32 (.lit 0)), (.bool (.lit false)), (.bool (.lit false))] [])), none⟩, ⟨none, (.store 8 (.t 2) (.t 19)), none⟩, ⟨(some 3), (.p (.mv (.c (.bool (.lit false))))), none⟩])
 .ret)))⟩
/- corral/alu.Result -/
def af6 : AFunc := ⟨44, [.t 8, .t 9],
 (.seq (.reg [⟨(some 4), (.box 8 (.t 0)), none⟩, ⟨(some 8), (.p (.mv (.c (.int .u32 (.lit 0))))), none⟩, ⟨(some 9), (.p (.mv (.c (.bool (.lit false))))), none⟩])
 (.seq (.seq (.reg [⟨(some 10), (.p (.fieldAddr 0 (.t 4))), none⟩, ⟨(some 11), (.load false 1 (.t 10)), none⟩])
 (.block 0 (.seq (.reg [⟨(some 13), (.p (.bin 0 .eql (.t 11) (.c (.int .i64 (.lit 1))))), none⟩, ⟨(some 12), (.p (.mv (.t 13))), none⟩])
 (.cond (.t 12) (.seq (.reg [⟨(some 14), (.p (.fieldAddr 5 (.t 4))), none⟩, ⟨(some 15), (.load false 1 (.t 14)), none⟩, ⟨(some 8), (.p (.mv (.t 15))), none⟩, ⟨(some 9), (.p (.mv (.c (.bool (.lit true))))), none⟩])
 .ret)
 (.seq (.reg [⟨(some 17), (.p (.bin 0 .eql (.t 11) (.c (.int .i64 (.lit 2))))), none⟩, ⟨(some 16), (.p (.mv (.t 17))), none⟩])
 (.cond (.t 16) (.seq (.reg [⟨(some 18), (.p (.mv (.t 1))), none⟩, ⟨(some 19), (.p (.fieldAddr 5 (.t 4))), none⟩, ⟨(some 20), (.load false 1 (.t 19)), none⟩, ⟨(some 21), (.p (.bin 0 .add (.t 18) (.t 20))), none⟩, ⟨(some 8), (.p (.mv (.t 21))), none⟩, ⟨(some 9), (.p (.mv (.c (.bool (.lit true))))), none⟩])
 .ret)
 (.seq (.seq (.reg [⟨(some 23), (.p (.bin 0 .eql (.t 11) (.c (.int .i64 (.lit 3))))), none⟩, ⟨(some 22), (.p (.mv (.t 23))), none⟩])
 (.cond (.t 22) .skip
 (.reg [⟨(some 24), (.p (.bin 0 .eql (.t 11) (.c (.int .i64 (.lit 4))))), none⟩, ⟨(some 22), (.p (.mv (.t 24))), none⟩])))
 (.cond (.t 22) (.seq (.reg [⟨(some 25), (.p (.mv (.t 1))), none⟩, ⟨(some 26), (.p (.bin 0 .add (.t 25) (.c (.int .u32 (.lit 4))))), none⟩, ⟨(some 8), (.p (.mv (.t 26))), none⟩, ⟨(some 9), (.p (.mv (.c (.bool (.lit true))))), none⟩])
 .ret)
 .skip))))))))
 (.seq (.seq (.reg [⟨(some 27), (.p (.fieldAddr 0 (.t 4))), none⟩, ⟨(some 28), (.load false 1 (.t 27)), none⟩, ⟨(some 29), (.p (.bin 0 .geq (.t 28) (.c (.int .i64 (.lit 19))))), none⟩, ⟨(some 30), (.p (.mv (.t 29))), none⟩, ⟨(some 31), (.p (.fieldAddr 0 (.t 4))), (some (30, true))⟩, ⟨(some 32), (.load false 1 (.t 31)), (some (30, true))⟩, ⟨(some 33), (.p (.bin 0 .leq (.t 32) (.c (.int .i64 (.lit 27))))), (some (30, true))⟩, ⟨(some 34), (.pick (.t 30) (.t 33) (.c (.bool (.lit false)))), none⟩])
 (.cond (.t 34) (.reg [⟨(some 35), (.p (.fieldAddr 5 (.t 4))), none⟩, ⟨(some 36), (.load false 1 (.t 35)), none⟩, ⟨(some 3), (.p (.mv (.t 36))), none⟩])
 .skip))
 (.seq (.reg [⟨(some 37), (.p (.fieldAddr 0 (.t 4))), none⟩, ⟨(some 38), (.load false 1 (.t 37)), none⟩, ⟨(some 39), (.p (.mv (.t 2))), none⟩, ⟨(some 40), (.p (.mv (.t 3))), none⟩, ⟨(some 41), (.call (.f 10) [(.t 38), (.t 39), (.t 40)]), none⟩, ⟨(some 42), (.p (.extract 0 (.t 41))), none⟩, ⟨(some 43), (.p (.extract 1 (.t 41))), none⟩, ⟨(some 8), (.p (.mv (.t 42))), none⟩, ⟨(some 9), (.p (.mv (.t 43))), none⟩])
 .ret))))⟩
/- corral/corralref1.Result -/
def af7 : AFunc := ⟨59, [.t 8, .t 9],
 (.seq (.reg [⟨(some 4), (.box 8 (.t 0)), none⟩, ⟨(some 8), (.p (.mv (.c (.int .u32 (.lit 0))))), none⟩, ⟨(some 9), (.p (.mv (.c (.bool (.lit false))))), none⟩])
 (.seq (.block 0 (.seq (.reg [⟨(some 11), (.p (.fieldAddr 0 (.t 4))), none⟩, ⟨(some 12), (.load false 1 (.t 11)), none⟩, ⟨(some 13), (.p (.bin 0 .eql (.t 12) (.c (.int .i64 (.lit 1))))), none⟩, ⟨(some 10), (.p (.mv (.t 13))), none⟩])
 (.cond (.t 10) (.seq (.reg [⟨(some 14), (.p (.fieldAddr 5 (.t 4))), none⟩, ⟨(some 15), (.load false 1 (.t 14)), none⟩, ⟨(some 8), (.p (.mv (.t 15))), none⟩, ⟨(some 9), (.p (.mv (.c (.bool (.lit true))))), none⟩])
 .ret)
 (.seq (.reg [⟨(some 17), (.p (.fieldAddr 0 (.t 4))), none⟩, ⟨(some 18), (.load false 1 (.t 17)), none⟩, ⟨(some 19), (.p (.bin 0 .eql (.t 18) (.c (.int .i64 (.lit 2))))), none⟩, ⟨(some 16), (.p (.mv (.t 19))), none⟩])
 (.cond (.t 16) (.seq (.reg [⟨(some 20), (.p (.mv (.t 1))), none⟩, ⟨(some 21), (.p (.fieldAddr 5 (.t 4))), none⟩, ⟨(some 22), (.load false 1 (.t 21)), none⟩, ⟨(some 23), (.p (.bin 0 .add (.t 20) (.t 22))), none⟩, ⟨(some 8), (.p (.mv (.t 23))), none⟩, ⟨(some 9), (.p (.mv (.c (.bool (.lit true))))), none⟩])
 .ret)
 (.seq (.reg [⟨(some 25), (.p (.fieldAddr 0 (.t 4))), none⟩, ⟨(some 26), (.load false 1 (.t 25)), none⟩, ⟨(some 27), (.p (.bin 0 .eql (.t 26) (.c (.int .i64 (.lit 3))))), none⟩, ⟨(some 28), (.p (.mv (.t 27))), none⟩, ⟨(some 29), (.p (.fieldAddr 0 (.t 4))), (some (28, false))⟩, ⟨(some 30), (.load false 1 (.t 29)), (some (28, false))⟩, ⟨(some 31), (.p (.bin 0 .eql (.t 30) (.c (.int .i64 (.lit 4))))), (some (28, false))⟩, ⟨(some 32), (.pick (.t 28) (.c (.bool (.lit true))) (.t 31)), none⟩, ⟨(some 24), (.p (.mv (.t 32))), none⟩])
 (.cond (.t 24) (.seq (.reg [⟨(some 33), (.p (.mv (.t 1))), none⟩, ⟨(some 34), (.p (.bin 0 .add (.t 33) (.c (.int .u32 (.lit 4))))), none⟩, ⟨(some 8), (.p (.mv (.t 34))), none⟩, ⟨(some 9), (.p (.mv (.c (.bool (.lit true))))), none⟩])
 .ret)
 (.seq (.reg [⟨(some 36), (.p (.fieldAddr 0 (.t 4))), none⟩, ⟨(some 37), (.load false 1 (.t 36)), none⟩, ⟨(some 38), (.p (.bin 0 .geq (.t 37) (.c (.int .i64 (.lit 19))))), none⟩, ⟨(some 39), (.p (.mv (.t 38))), none⟩, ⟨(some 40), (.p (.fieldAddr 0 (.t 4))), (some (39, true))⟩, ⟨(some 41), (.load false 1 (.t 40)), (some (39, true))⟩, ⟨(some 42), (.p (.bin 0 .leq (.t 41) (.c (.int .i64 (.lit 27))))), (some (39, true))⟩, ⟨(some 43), (.pick (.t 39) (.t 42) (.c (.bool (.lit false)))), none⟩, ⟨(some 35), (.p (.mv (.t 43))), none⟩])
 (.cond (.t 35) (.seq (.reg [⟨(some 44), (.p (.fieldAddr 0 (.t 4))), none⟩, ⟨(some 45), (.load false 1 (.t 44)), none⟩, ⟨(some 46), (.p (.mv (.t 2))), none⟩, ⟨(some 47), (.p (.fieldAddr 5 (.t 4))), none⟩, ⟨(some 48), (.load false 1 (.t 47)), none⟩, ⟨(some 49), (.call (.f 16) [(.t 45), (.t 46), (.t 48)]), none⟩, ⟨(some 50), (.p (.extract 0 (.t 49))), none⟩, ⟨(some 51), (.p (.extract 1 (.t 49))), none⟩, ⟨(some 8), (.p (.mv (.t 50))), none⟩, ⟨(some 9), (.p (.mv (.t 51))), none⟩])
 .ret)
 .skip)))))))))
 (.seq (.reg [⟨(some 52), (.p (.fieldAddr 0 (.t 4))), none⟩, ⟨(some 53), (.load false 1 (.t 52)), none⟩, ⟨(some 54), (.p (.mv (.t 2))), none⟩, ⟨(some 55), (.p (.mv (.t 3))), none⟩, ⟨(some 56), (.call (.f 16) [(.t 53), (.t 54), (.t 55)]), none⟩, ⟨(some 57), (.p (.extract 0 (.t 56))), none⟩, ⟨(some 58), (.p (.extract 1 (.t 56))), none⟩, ⟨(some 8), (.p (.mv (.t 57))), none⟩, ⟨(some 9), (.p (.mv (.t 58))), none⟩])
 .ret)))⟩
/- corral/alu.Next -/
def af8 : AFunc := ⟨41, [.t 8],
 (.seq (.reg [⟨(some 4), (.box 8 (.t 0)), none⟩, ⟨(some 8), (.p (.mv (.c (.int .u32 (.lit 0))))), none⟩])
 (.seq (.reg [⟨(some 12), (.p (.fieldAddr 0 (.t 4))), none⟩, ⟨(some 13), (.load false 1 (.t 12)), none⟩, ⟨(some 14), (.p (.mv (.t 2))), none⟩, ⟨(some 15), (.p (.mv (.t 3))), none⟩, ⟨(some 16), (.call (.f 17) [(.t 13), (.t 14), (.t 15)]), none⟩, ⟨(some 11), (.p (.mv (.t 16))), none⟩, ⟨(some 17), (.p (.extract 0 (.t 11))), none⟩, ⟨(some 18), (.p (.extract 1 (.t 11))), none⟩, ⟨(some 9), (.p (.mv (.t 17))), none⟩, ⟨(some 10), (.p (.mv (.t 18))), none⟩])
 (.seq (.block 0 (.seq (.reg [⟨(some 20), (.p (.fieldAddr 0 (.t 4))), none⟩, ⟨(some 21), (.load false 1 (.t 20)), none⟩, ⟨(some 22), (.p (.bin 0 .eql (.t 21) (.c (.int .i64 (.lit 4))))), none⟩, ⟨(some 19), (.p (.mv (.t 22))), none⟩])
 (.cond (.t 19) (.seq (.reg [⟨(some 23), (.p (.mv (.t 2))), none⟩, ⟨(some 24), (.p (.fieldAddr 5 (.t 4))), none⟩, ⟨(some 25), (.load false 1 (.t 24)), none⟩, ⟨(some 26), (.p (.bin 0 .add (.t 23) (.t 25))), none⟩, ⟨(some 27), (.p (.bin 0 .andNot (.t 26) (.c (.int .u32 (.lit 1))))), none⟩, ⟨(some 8), (.p (.mv (.t 27))), none⟩])
 .ret)
 (.seq (.reg [⟨(some 29), (.p (.fieldAddr 0 (.t 4))), none⟩, ⟨(some 30), (.load false 1 (.t 29)), none⟩, ⟨(some 31), (.p (.bin 0 .eql (.t 30) (.c (.int .i64 (.lit 3))))), none⟩, ⟨(some 32), (.p (.mv (.t 31))), none⟩, ⟨(some 33), (.p (.mv (.t 9))), (some (32, false))⟩, ⟨(some 34), (.pick (.t 32) (.c (.bool (.lit true))) (.t 33)), none⟩, ⟨(some 28), (.p (.mv (.t 34))), none⟩])
 (.cond (.t 28) (.seq (.reg [⟨(some 35), (.p (.mv (.t 1))), none⟩, ⟨(some 36), (.p (.fieldAddr 5 (.t 4))), none⟩, ⟨(some 37), (.load false 1 (.t 36)), none⟩, ⟨(some 38), (.p (.bin 0 .add (.t 35) (.t 37))), none⟩, ⟨(some 8), (.p (.mv (.t 38))), none⟩])
 .ret)
 .skip)))))
 (.seq (.reg [⟨(some 39), (.p (.mv (.t 1))), none⟩, ⟨(some 40), (.p (.bin 0 .add (.t 39) (.c (.int .u32 (.lit 4))))), none⟩, ⟨(some 8), (.p (.mv (.t 40))), none⟩])
 .ret))))⟩
/- corral/corralref1.Next -/
def af9 : AFunc := ⟨41, [.t 8],
 (.seq (.reg [⟨(some 4), (.box 8 (.t 0)), none⟩, ⟨(some 8), (.p (.mv (.c (.int .u32 (.lit 0))))), none⟩])
 (.seq (.reg [⟨(some 12), (.p (.fieldAddr 0 (.t 4))), none⟩, ⟨(some 13), (.load false 1 (.t 12)), none⟩, ⟨(some 14), (.p (.mv (.t 2))), none⟩, ⟨(some 15), (.p (.mv (.t 3))), none⟩, ⟨(some 16), (.call (.f 18) [(.t 13), (.t 14), (.t 15)]), none⟩, ⟨(some 11), (.p (.mv (.t 16))), none⟩, ⟨(some 17), (.p (.extract 0 (.t 11))), none⟩, ⟨(some 18), (.p (.extract 1 (.t 11))), none⟩, ⟨(some 9), (.p (.mv (.t 17))), none⟩, ⟨(some 10), (.p (.mv (.t 18))), none⟩])
 (.seq (.block 0 (.seq (.reg [⟨(some 20), (.p (.fieldAddr 0 (.t 4))), none⟩, ⟨(some 21), (.load false 1 (.t 20)), none⟩, ⟨(some 22), (.p (.bin 0 .eql (.t 21) (.c (.int .i64 (.lit 3))))), none⟩, ⟨(some 23), (.p (.mv (.t 22))), none⟩, ⟨(some 24), (.p (.mv (.t 9))), (some (23, false))⟩, ⟨(some 25), (.pick (.t 23) (.c (.bool (.lit true))) (.t 24)), none⟩, ⟨(some 19), (.p (.mv (.t 25))), none⟩])
 (.cond (.t 19) (.seq (.reg [⟨(some 26), (.p (.mv (.t 1))), none⟩, ⟨(some 27), (.p (.fieldAddr 5 (.t 4))), none⟩, ⟨(some 28), (.load false 1 (.t 27)), none⟩, ⟨(some 29), (.p (.bin 0 .add (.t 26) (.t 28))), none⟩, ⟨(some 8), (.p (.mv (.t 29))), none⟩])
 .ret)
 (.seq (.reg [⟨(some 31), (.p (.fieldAddr 0 (.t 4))), none⟩, ⟨(some 32), (.load false 1 (.t 31)), none⟩, ⟨(some 33), (.p (.bin 0 .eql (.t 32) (.c (.int .i64 (.lit 4))))), none⟩, ⟨(some 30), (.p (.mv (.t 33))), none⟩])
 (.cond (.t 30) (.seq (.reg [⟨(some 34), (.p (.mv (.t 2))), none⟩, ⟨(some 35), (.p (.fieldAddr 5 (.t 4))), none⟩, ⟨(some 36), (.load false 1 (.t 35)), none⟩, ⟨(some 37), (.p (.bin 0 .add (.t 34) (.t 36))), none⟩, ⟨(some 38), (.p (.bin 0 .andNot (.t 37) (.c (.int .u32 (.lit 1))))), none⟩, ⟨(some 8), (.p (.mv (.t 38))), none⟩])
 .ret)
 .skip)))))
 (.seq (.reg [⟨(some 39), (.p (.mv (.t 1))), none⟩, ⟨(some 40), (.p (.bin 0 .add (.t 39) (.c (.int .u32 (.lit 4))))), none⟩, ⟨(some 8), (.p (.mv (.t 40))), none⟩])
 .ret))))⟩
/- corral/alu.Do -/
def af10 : AFunc := ⟨112, [.t 6, .t 7],
 (.seq (.reg [⟨(some 6), (.p (.mv (.c (.int .u32 (.lit 0))))), none⟩, ⟨(some 7), (.p (.mv (.c (.bool (.lit false))))), none⟩])
 (.seq (.seq (.reg [⟨(some 8), (.p (.mv (.t 0))), none⟩])
 (.block 0 (.seq (.seq (.reg [⟨(some 10), (.p (.bin 0 .eql (.t 8) (.c (.int .i64 (.lit 28))))), none⟩, ⟨(some 9), (.p (.mv (.t 10))), none⟩])
 (.cond (.t 9) .skip
 (.reg [⟨(some 11), (.p (.bin 0 .eql (.t 8) (.c (.int .i64 (.lit 19))))), none⟩, ⟨(some 9), (.p (.mv (.t 11))), none⟩])))
 (.cond (.t 9) (.seq (.reg [⟨(some 12), (.p (.mv (.t 1))), none⟩, ⟨(some 13), (.p (.mv (.t 2))), none⟩, ⟨(some 14), (.p (.bin 0 .add (.t 12) (.t 13))), none⟩, ⟨(some 6), (.p (.mv (.t 14))), none⟩, ⟨(some 7), (.p (.mv (.c (.bool (.lit true))))), none⟩])
 .ret)
 (.seq (.reg [⟨(some 16), (.p (.bin 0 .eql (.t 8) (.c (.int .i64 (.lit 29))))), none⟩, ⟨(some 15), (.p (.mv (.t 16))), none⟩])
 (.cond (.t 15) (.seq (.reg [⟨(some 17), (.p (.mv (.t 1))), none⟩, ⟨(some 18), (.p (.mv (.t 2))), none⟩, ⟨(some 19), (.p (.bin 0 .sub (.t 17) (.t 18))), none⟩, ⟨(some 6), (.p (.mv (.t 19))), none⟩, ⟨(some 7), (.p (.mv (.c (.bool (.lit true))))), none⟩])
 .ret)
 (.seq (.seq (.reg [⟨(some 21), (.p (.bin 0 .eql (.t 8) (.c (.int .i64 (.lit 30))))), none⟩, ⟨(some 20), (.p (.mv (.t 21))), none⟩])
 (.cond (.t 20) .skip
 (.reg [⟨(some 22), (.p (.bin 0 .eql (.t 8) (.c (.int .i64 (.lit 25))))), none⟩, ⟨(some 20), (.p (.mv (.t 22))), none⟩])))
 (.cond (.t 20) (.seq (.reg [⟨(some 23), (.p (.mv (.t 1))), none⟩, ⟨(some 24), (.p (.mv (.t 2))), none⟩, ⟨(some 25), (.p (.bin 0 .and (.t 24) (.c (.int .u32 (.lit 31))))), none⟩, ⟨(some 26), (.p (.conv .i64 (.t 25))), none⟩, ⟨(some 27), (.call (.f 19) [(.t 23), (.t 26)]), none⟩, ⟨(some 6), (.p (.mv (.t 27))), none⟩, ⟨(some 7), (.p (.mv (.c (.bool (.lit true))))), none⟩])
 .ret)
 (.seq (.seq (.reg [⟨(some 29), (.p (.bin 0 .eql (.t 8) (.c (.int .i64 (.lit 31))))), none⟩, ⟨(some 28), (.p (.mv (.t 29))), none⟩])
 (.cond (.t 28) .skip
 (.reg [⟨(some 30), (.p (.bin 0 .eql (.t 8) (.c (.int .i64 (.lit 20))))), none⟩, ⟨(some 28), (.p (.mv (.t 30))), none⟩])))
 (.cond (.t 28) (.seq (.reg [⟨(some 31), (.p (.mv (.t 1))), none⟩, ⟨(some 32), (.p (.mv (.t 2))), none⟩, ⟨(some 33), (.call (.f 21) [(.t 31), (.t 32), (.c (.bool (.lit true)))]), none⟩, ⟨(some 34), (.call (.f 20) [(.t 33)]), none⟩, ⟨(some 6), (.p (.mv (.t 34))), none⟩, ⟨(some 7), (.p (.mv (.c (.bool (.lit true))))), none⟩])
 .ret)
 (.seq (.seq (.reg [⟨(some 36), (.p (.bin 0 .eql (.t 8) (.c (.int .i64 (.lit 32))))), none⟩, ⟨(some 35), (.p (.mv (.t 36))), none⟩])
 (.cond (.t 35) .skip
 (.reg [⟨(some 37), (.p (.bin 0 .eql (.t 8) (.c (.int .i64 (.lit 21))))), none⟩, ⟨(some 35), (.p (.mv (.t 37))), none⟩])))
 (.cond (.t 35) (.seq (.reg [⟨(some 38), (.p (.mv (.t 1))), none⟩, ⟨(some 39), (.p (.mv (.t 2))), none⟩, ⟨(some 40), (.call (.f 21) [(.t 38), (.t 39), (.c (.bool (.lit false)))]), none⟩, ⟨(some 41), (.call (.f 20) [(.t 40)]), none⟩, ⟨(some 6), (.p (.mv (.t 41))), none⟩, ⟨(some 7), (.p (.mv (.c (.bool (.lit true))))), none⟩])
 .ret)
 (.seq (.seq (.reg [⟨(some 43), (.p (.bin 0 .eql (.t 8) (.c (.int .i64 (.lit 33))))), none⟩, ⟨(some 42), (.p (.mv (.t 43))), none⟩])
 (.cond (.t 42) .skip
 (.reg [⟨(some 44), (.p (.bin 0 .eql (.t 8) (.c (.int .i64 (.lit 22))))), none⟩, ⟨(some 42), (.p (.mv (.t 44))), none⟩])))
 (.cond (.t 42) (.seq (.reg [⟨(some 45), (.p (.mv (.t 1))), none⟩, ⟨(some 46), (.p (.mv (.t 2))), none⟩, ⟨(some 47), (.p (.bin 0 .xor (.t 45) (.t 46))), none⟩, ⟨(some 6), (.p (.mv (.t 47))), none⟩, ⟨(some 7), (.p (.mv (.c (.bool (.lit true))))), none⟩])
 .ret)
 (.seq (.seq (.reg [⟨(some 49), (.p (.bin 0 .eql (.t 8) (.c (.int .i64 (.lit 34))))), none⟩, ⟨(some 48), (.p (.mv (.t 49))), none⟩])
 (.cond (.t 48) .skip
 (.reg [⟨(some 50), (.p (.bin 0 .eql (.t 8) (.c (.int .i64 (.lit 26))))), none⟩, ⟨(some 48), (.p (.mv (.t 50))), none⟩])))
 (.cond (.t 48) (.seq (.reg [⟨(some 51), (.p (.mv (.t 1))), none⟩, ⟨(some 52), (.p (.mv (.t 2))), none⟩, ⟨(some 53), (.p (.bin 0 .and (.t 52) (.c (.int .u32 (.lit 31))))), none⟩, ⟨(some 54), (.p (.conv .i64 (.t 53))), none⟩, ⟨(some 55), (.call (.f 22) [(.t 51), (.t 54), (.c (.bool (.lit false)))]), none⟩, ⟨(some 6), (.p (.mv (.t 55))), none⟩, ⟨(some 7), (.p (.mv (.c (.bool (.lit true))))), none⟩])
 .ret)
 (.seq (.seq (.reg [⟨(some 57), (.p (.bin 0 .eql (.t 8) (.c (.int .i64 (.lit 35))))), none⟩, ⟨(some 56), (.p (.mv (.t 57))), none⟩])
 (.cond (.t 56) .skip
 (.reg [⟨(some 58), (.p (.bin 0 .eql (.t 8) (.c (.int .i64 (.lit 27))))), none⟩, ⟨(some 56), (.p (.mv (.t 58))), none⟩])))
 (.cond (.t 56) (.seq (.reg [⟨(some 59), (.p (.mv (.t 1))), none⟩, ⟨(some 60), (.p (.mv (.t 2))), none⟩, ⟨(some 61), (.p (.bin 0 .and (.t 60) (.c (.int .u32 (.lit 31))))), none⟩, ⟨(some 62), (.p (.conv .i64 (.t 61))), none⟩, ⟨(some 63), (.call (.f 22) [(.t 59), (.t 62), (.c (.bool (.lit true)))]), none⟩, ⟨(some 6), (.p (.mv (.t 63))), none⟩, ⟨(some 7), (.p (.mv (.c (.bool (.lit true))))), none⟩])
 .ret)
 (.seq (.seq (.reg [⟨(some 65), (.p (.bin 0 .eql (.t 8) (.c (.int .i64 (.lit 36))))), none⟩, ⟨(some 64), (.p (.mv (.t 65))), none⟩])
 (.cond (.t 64) .skip
 (.reg [⟨(some 66), (.p (.bin 0 .eql (.t 8) (.c (.int .i64 (.lit 23))))), none⟩, ⟨(some 64), (.p (.mv (.t 66))), none⟩])))
 (.cond (.t 64) (.seq (.reg [⟨(some 67), (.p (.mv (.t 1))), none⟩, ⟨(some 68), (.p (.mv (.t 2))), none⟩, ⟨(some 69), (.p (.bin 0 .or (.t 67) (.t 68))), none⟩, ⟨(some 6), (.p (.mv (.t 69))), none⟩, ⟨(some 7), (.p (.mv (.c (.bool (.lit true))))), none⟩])
 .ret)
 (.seq (.seq (.reg [⟨(some 71), (.p (.bin 0 .eql (.t 8) (.c (.int .i64 (.lit 37))))), none⟩, ⟨(some 70), (.p (.mv (.t 71))), none⟩])
 (.cond (.t 70) .skip
 (.reg [⟨(some 72), (.p (.bin 0 .eql (.t 8) (.c (.int .i64 (.lit 24))))), none⟩, ⟨(some 70), (.p (.mv (.t 72))), none⟩])))
 (.cond (.t 70) (.seq (.reg [⟨(some 73), (.p (.mv (.t 1))), none⟩, ⟨(some 74), (.p (.mv (.t 2))), none⟩, ⟨(some 75), (.p (.bin 0 .and (.t 73) (.t 74))), none⟩, ⟨(some 6), (.p (.mv (.t 75))), none⟩, ⟨(some 7), (.p (.mv (.c (.bool (.lit true))))), none⟩])
 .ret)
 (.seq (.reg [⟨(some 77), (.p (.bin 0 .eql (.t 8) (.c (.int .i64 (.lit 51))))), none⟩, ⟨(some 76), (.p (.mv (.t 77))), none⟩])
 (.cond (.t 76) (.seq (.reg [⟨(some 78), (.p (.mv (.t 1))), none⟩, ⟨(some 79), (.p (.mv (.t 2))), none⟩, ⟨(some 80), (.p (.bin 0 .mul (.t 78) (.t 79))), none⟩, ⟨(some 6), (.p (.mv (.t 80))), none⟩, ⟨(some 7), (.p (.mv (.c (.bool (.lit true))))), none⟩])
 .ret)
 (.seq (.reg [⟨(some 82), (.p (.bin 0 .eql (.t 8) (.c (.int .i64 (.lit 52))))), none⟩, ⟨(some 81), (.p (.mv (.t 82))), none⟩])
 (.cond (.t 81) (.seq (.reg [⟨(some 83), (.p (.mv (.t 1))), none⟩, ⟨(some 84), (.p (.mv (.t 2))), none⟩, ⟨(some 85), (.call (.f 23) [(.t 83), (.t 84), (.c (.bool (.lit true))), (.c (.bool (.lit true)))]), none⟩, ⟨(some 6), (.p (.mv (.t 85))), none⟩, ⟨(some 7), (.p (.mv (.c (.bool (.lit true))))), none⟩])
 .ret)
 (.seq (.reg [⟨(some 87), (.p (.bin 0 .eql (.t 8) (.c (.int .i64 (.lit 53))))), none⟩, ⟨(some 86), (.p (.mv (.t 87))), none⟩])
 (.cond (.t 86) (.seq (.reg [⟨(some 88), (.p (.mv (.t 1))), none⟩, ⟨(some 89), (.p (.mv (.t 2))), none⟩, ⟨(some 90), (.call (.f 23) [(.t 88), (.t 89), (.c (.bool (.lit true))), (.c (.bool (.lit false)))]), none⟩, ⟨(some 6), (.p (.mv (.t 90))), none⟩, ⟨(some 7), (.p (.mv (.c (.bool (.lit true))))), none⟩])
 .ret)
 (.seq (.reg [⟨(some 92), (.p (.bin 0 .eql (.t 8) (.c (.int .i64 (.lit 54))))), none⟩, ⟨(some 91), (.p (.mv (.t 92))), none⟩])
 (.cond (.t 91) (.seq (.reg [⟨(some 93), (.p (.mv (.t 1))), none⟩, ⟨(some 94), (.p (.mv (.t 2))), none⟩, ⟨(some 95), (.call (.f 23) [(.t 93), (.t 94), (.c (.bool (.lit false))), (.c (.bool (.lit false)))]), none⟩, ⟨(some 6), (.p (.mv (.t 95))), none⟩, ⟨(some 7), (.p (.mv (.c (.bool (.lit true))))), none⟩])
 .ret)
 (.seq (.seq (.reg [⟨(some 97), (.p (.bin 0 .eql (.t 8) (.c (.int .i64 (.lit 55))))), none⟩, ⟨(some 96), (.p (.mv (.t 97))), none⟩])
 (.cond (.t 96) .skip
 (.reg [⟨(some 98), (.p (.bin 0 .eql (.t 8) (.c (.int .i64 (.lit 56))))), none⟩, ⟨(some 96), (.p (.mv (.t 98))), none⟩])))
 (.cond (.t 96) (.seq (.reg [⟨(some 99), (.p (.mv (.t 1))), none⟩, ⟨(some 100), (.p (.mv (.t 2))), none⟩, ⟨(some 101), (.p (.mv (.t 0))), none⟩, ⟨(some 102), (.p (.bin 0 .eql (.t 101) (.c (.int .i64 (.lit 55))))), none⟩, ⟨(some 103), (.call (.f 24) [(.t 99), (.t 100), (.t 102)]), none⟩, ⟨(some 6), (.p (.mv (.t 103))), none⟩, ⟨(some 7), (.p (.mv (.c (.bool (.lit true))))), none⟩])
 .ret)
 (.seq (.seq (.reg [⟨(some 105), (.p (.bin 0 .eql (.t 8) (.c (.int .i64 (.lit 57))))), none⟩, ⟨(some 104), (.p (.mv (.t 105))), none⟩])
 (.cond (.t 104) .skip
 (.reg [⟨(some 106), (.p (.bin 0 .eql (.t 8) (.c (.int .i64 (.lit 58))))), none⟩, ⟨(some 104), (.p (.mv (.t 106))), none⟩])))
 (.cond (.t 104) (.seq (.reg [⟨(some 107), (.p (.mv (.t 1))), none⟩, ⟨(some 108), (.p (.mv (.t 2))), none⟩, ⟨(some 109), (.p (.mv (.t 0))), none⟩, ⟨(some 110), (.p (.bin 0 .eql (.t 109) (.c (.int .i64 (.lit 57))))), none⟩, ⟨(some 111), (.call (.f 25) [(.t 107), (.t 108), (.t 110)]), none⟩, ⟨(some 6), (.p (.mv (.t 111))), none⟩, ⟨(some 7), (.p (.mv (.c (.bool (.lit true))))), none⟩])
 .ret)
 .skip))))))))))))))))))))))))))))))))))
 (.seq (.reg [⟨(some 6), (.p (.mv (.c (.int .u32 (.lit 0))))), none⟩, ⟨(some 7), (.p (.mv (.c (.bool (.lit false))))), none⟩])
 .ret)))⟩
/- corral/alu.Amo -/
def af11 : AFunc := ⟨58, [.t 6, .t 7],
 (.seq (.reg [⟨(some 4), (.box 1 (.t 1)), none⟩, ⟨(some 5), (.box 1 (.t 2)), none⟩, ⟨(some 6), (.p (.mv (.c (.int .u32 (.lit 0))))), none⟩, ⟨(some 7), (.p (.mv (.c (.bool (.lit false))))), none⟩])
 (.seq (.reg [⟨(some 9), (.p (.mkFunc 26 [] [(.t 4), (.t 5)])), none⟩, ⟨(some 8), (.p (.mv (.t 9))), none⟩])
 (.seq (.seq (.reg [⟨(some 10), (.p (.mv (.t 0))), none⟩])
 (.block 0 (.seq (.reg [⟨(some 12), (.p (.bin 0 .eql (.t 10) (.c (.int .i64 (.lit 61))))), none⟩, ⟨(some 11), (.p (.mv (.t 12))), none⟩])
 (.cond (.t 11) (.seq (.reg [⟨(some 13), (.load false 1 (.t 5)), none⟩, ⟨(some 6), (.p (.mv (.t 13))), none⟩, ⟨(some 7), (.p (.mv (.c (.bool (.lit true))))), none⟩])
 .ret)
 (.seq (.reg [⟨(some 15), (.p (.bin 0 .eql (.t 10) (.c (.int .i64 (.lit 62))))), none⟩, ⟨(some 14), (.p (.mv (.t 15))), none⟩])
 (.cond (.t 14) (.seq (.reg [⟨(some 16), (.load false 1 (.t 4)), none⟩, ⟨(some 17), (.load false 1 (.t 5)), none⟩, ⟨(some 18), (.p (.bin 0 .add (.t 16) (.t 17))), none⟩, ⟨(some 6), (.p (.mv (.t 18))), none⟩, ⟨(some 7), (.p (.mv (.c (.bool (.lit true))))), none⟩])
 .ret)
 (.seq (.reg [⟨(some 20), (.p (.bin 0 .eql (.t 10) (.c (.int .i64 (.lit 63))))), none⟩, ⟨(some 19), (.p (.mv (.t 20))), none⟩])
 (.cond (.t 19) (.seq (.reg [⟨(some 21), (.load false 1 (.t 4)), none⟩, ⟨(some 22), (.load false 1 (.t 5)), none⟩, ⟨(some 23), (.p (.bin 0 .xor (.t 21) (.t 22))), none⟩, ⟨(some 6), (.p (.mv (.t 23))), none⟩, ⟨(some 7), (.p (.mv (.c (.bool (.lit true))))), none⟩])
 .ret)
 (.seq (.reg [⟨(some 25), (.p (.bin 0 .eql (.t 10) (.c (.int .i64 (.lit 64))))), none⟩, ⟨(some 24), (.p (.mv (.t 25))), none⟩])
 (.cond (.t 24) (.seq (.reg [⟨(some 26), (.load false 1 (.t 4)), none⟩, ⟨(some 27), (.load false 1 (.t 5)), none⟩, ⟨(some 28), (.p (.bin 0 .and (.t 26) (.t 27))), none⟩, ⟨(some 6), (.p (.mv (.t 28))), none⟩, ⟨(some 7), (.p (.mv (.c (.bool (.lit true))))), none⟩])
 .ret)
 (.seq (.reg [⟨(some 30), (.p (.bin 0 .eql (.t 10) (.c (.int .i64 (.lit 65))))), none⟩, ⟨(some 29), (.p (.mv (.t 30))), none⟩])
 (.cond (.t 29) (.seq (.reg [⟨(some 31), (.load false 1 (.t 4)), none⟩, ⟨(some 32), (.load false 1 (.t 5)), none⟩, ⟨(some 33), (.p (.bin 0 .or (.t 31) (.t 32))), none⟩, ⟨(some 6), (.p (.mv (.t 33))), none⟩, ⟨(some 7), (.p (.mv (.c (.bool (.lit true))))), none⟩])
 .ret)
 (.seq (.seq (.reg [⟨(some 35), (.p (.bin 0 .eql (.t 10) (.c (.int .i64 (.lit 66))))), none⟩, ⟨(some 34), (.p (.mv (.t 35))), none⟩])
 (.cond (.t 34) .skip
 (.reg [⟨(some 36), (.p (.bin 0 .eql (.t 10) (.c (.int .i64 (.lit 68))))), none⟩, ⟨(some 34), (.p (.mv (.t 36))), none⟩])))
 (.cond (.t 34) (.seq (.reg [⟨(some 37), (.p (.mv (.t 8))), none⟩, ⟨(some 38), (.load false 1 (.t 4)), none⟩, ⟨(some 39), (.load false 1 (.t 5)), none⟩, ⟨(some 40), (.p (.mv (.t 0))), none⟩, ⟨(some 41), (.p (.bin 0 .eql (.t 40) (.c (.int .i64 (.lit 66))))), none⟩, ⟨(some 42), (.call (.f 21) [(.t 38), (.t 39), (.t 41)]), none⟩, ⟨(some 43), (.call (.t 37) [(.t 42)]), none⟩, ⟨(some 44), (.p (.extract 0 (.t 43))), none⟩, ⟨(some 45), (.p (.extract 1 (.t 43))), none⟩, ⟨(some 6), (.p (.mv (.t 44))), none⟩, ⟨(some 7), (.p (.mv (.t 45))), none⟩])
 .ret)
 (.seq (.seq (.reg [⟨(some 47), (.p (.bin 0 .eql (.t 10) (.c (.int .i64 (.lit 67))))), none⟩, ⟨(some 46), (.p (.mv (.t 47))), none⟩])
 (.cond (.t 46) .skip
 (.reg [⟨(some 48), (.p (.bin 0 .eql (.t 10) (.c (.int .i64 (.lit 69))))), none⟩, ⟨(some 46), (.p (.mv (.t 48))), none⟩])))
 (.cond (.t 46) (.seq (.reg [⟨(some 49), (.p (.mv (.t 8))), none⟩, ⟨(some 50), (.load false 1 (.t 5)), none⟩, ⟨(some 51), (.load false 1 (.t 4)), none⟩, ⟨(some 52), (.p (.mv (.t 0))), none⟩, ⟨(some 53), (.p (.bin 0 .eql (.t 52) (.c (.int .i64 (.lit 67))))), none⟩, ⟨(some 54), (.call (.f 21) [(.t 50), (.t 51), (.t 53)]), none⟩, ⟨(some 55), (.call (.t 49) [(.t 54)]), none⟩, ⟨(some 56), (.p (.extract 0 (.t 55))), none⟩, ⟨(some 57), (.p (.extract 1 (.t 55))), none⟩, ⟨(some 6), (.p (.mv (.t 56))), none⟩, ⟨(some 7), (.p (.mv (.t 57))), none⟩])
 .ret)
 .skip))))))))))))))))
 (.seq (.reg [⟨(some 6), (.p (.mv (.c (.int .u32 (.lit 0))))), none⟩, ⟨(some 7), (.p (.mv (.c (.bool (.lit false))))), none⟩])
 .ret))))⟩
/- corral/alu.Extend -/
def af12 : AFunc := ⟨24, [.t 4],
 (.seq (.reg [⟨(some 4), (.p (.mv (.c (.int .u32 (.lit 0))))), none⟩])
 (.seq (.seq (.reg [⟨(some 6), (.p (.mv (.t 0))), none⟩, ⟨(some 7), (.call (.f 27) [(.t 6)]), none⟩, ⟨(some 8), (.p (.un .not (.t 7))), none⟩])
 (.cond (.t 8) (.seq (.reg [⟨(some 4), (.p (.mv (.c (.int .u32 (.lit 0))))), none⟩])
 .ret)
 .skip))
 (.seq (.reg [⟨(some 9), (.p (.mv (.t 0))), none⟩, ⟨(some 10), (.call (.f 28) [(.t 9)]), none⟩, ⟨(some 11), (.p (.bin 0 .mul (.c (.int .i64 (.lit 8))) (.t 10))), none⟩, ⟨(some 5), (.p (.mv (.t 11))), none⟩])
 (.seq (.seq (.reg [⟨(some 12), (.p (.mv (.t 0))), none⟩, ⟨(some 13), (.p (.bin 0 .eql (.t 12) (.c (.int .i64 (.lit 11))))), none⟩, ⟨(some 14), (.p (.mv (.t 13))), none⟩, ⟨(some 15), (.p (.mv (.t 0))), (some (14, false))⟩, ⟨(some 16), (.p (.bin 0 .eql (.t 15) (.c (.int .i64 (.lit 12))))), (some (14, false))⟩, ⟨(some 17), (.pick (.t 14) (.c (.bool (.lit true))) (.t 16)), none⟩])
 (.cond (.t 17) (.seq (.reg [⟨(some 18), (.p (.mv (.t 1))), none⟩, ⟨(some 19), (.p (.mv (.t 5))), none⟩, ⟨(some 20), (.call (.f 29) [(.t 18), (.t 19)]), none⟩, ⟨(some 4), (.p (.mv (.t 20))), none⟩])
 .ret)
 .skip))
 (.seq (.reg [⟨(some 21), (.p (.mv (.t 1))), none⟩, ⟨(some 22), (.p (.mv (.t 5))), none⟩, ⟨(some 23), (.call (.f 30) [(.t 21), (.c (.int .i64 (.lit 0))), (.t 22)]), none⟩, ⟨(some 4), (.p (.mv (.t 23))), none⟩])
 .ret)))))⟩
/- corral/isa.rows -/
def af13 : AFunc := ⟨71, [.t 0],
 (.seq (.reg [⟨(some 0), (.p (.mv (.c .nilSlice))), none⟩])
 (.seq (.reg [⟨(some 1), (.p (.build [(.int .i64 (.lit 0)), (.str ⟨#[]⟩), (.int .i64 (.lit 0)), (.int .u32 (.lit 0)), (.int .u32 (.lit 0)), (.int .u32 (.lit 0)), (.int .i64 (.lit 0))] [(0, 1, (.c (.int .i64 (.lit 1)))), (1, 1, (.c (.str ⟨#[108, 117, 105]⟩))), (2, 1, (.c (.int .i64 (.lit 0)))), (3, 1, (.c (.int .u32 (.lit 55)))), (4, 1, (.c (.int .u32 (.lit 0)))), (5, 1, (.c (.int .u32 (.lit 0)))), (6, 1, (.c (.int .i64 (.lit 1))))])), none⟩, ⟨(some 2), (.p (.build [(.int .i64 (.lit 0)), (.str ⟨#[]⟩), (.int .i64 (.lit 0)), (.int .u32 (.lit 0)), (.int .u32 (.lit 0)), (.int .u32 (.lit 0)), (.int .i64 (.lit 0))] [(0, 1, (.c (.int .i64 (.lit 2)))), (1, 1, (.c (.str ⟨#[97, 117, 105, 112, 99]⟩))), (2, 1, (.c (.int .i64 (.lit 0)))), (3, 1, (.c (.int .u32 (.lit 23)))), (4, 1, (.c (.int .u32 (.lit 0)))), (5, 1, (.c (.int .u32 (.lit 0)))), (6, 1, (.c (.int .i64 (.lit 1))))])), none⟩, ⟨(some 3), (.p (.build [(.int .i64 (.lit 0)), (.str ⟨#[]⟩), (.int .i64 (.lit 0)), (.int .u32 (.lit 0)), (.int .u32 (.lit 0)), (.int .u32 (.lit 0)), (.int .i64 (.lit 0))] [(0, 1, (.c (.int .i64 (.lit 3)))), (1, 1, (.c (.str ⟨#[106, 97, 108]⟩))), (2, 1, (.c (.int .i64 (.lit 1)))), (3, 1, (.c (.int .u32 (.lit 111)))), (4, 1, (.c (.int .u32 (.lit 0)))), (5, 1, (.c (.int .u32 (.lit 0)))), (6, 1, (.c (.int .i64 (.lit 2))))])), none⟩, ⟨(some 4), (.p (.build [(.int .i64 (.lit 0)), (.str ⟨#[]⟩), (.int .i64 (.lit 0)), (.int .u32 (.lit 0)), (.int .u32 (.lit 0)), (.int .u32 (.lit 0)), (.int .i64 (.lit 0))] [(0, 1, (.c (.int .i64 (.lit 4)))), (1, 1, (.c (.str ⟨#[106, 97, 108, 114]⟩))), (2, 1, (.c (.int .i64 (.lit 2)))), (3, 1, (.c (.int .u32 (.lit 103)))), (4, 1, (.c (.int .u32 (.lit 0)))), (5, 1, (.c (.int .u32 (.lit 0)))), (6, 1, (.c (.int .i64 (.lit 2))))])), none⟩, ⟨(some 5), (.p (.build [(.int .i64 (.lit 0)), (.str ⟨#[]⟩), (.int .i64 (.lit 0)), (.int .u32 (.lit 0)), (.int .u32 (.lit 0)), (.int .u32 (.lit 0)), (.int .i64 (.lit 0))] [(0, 1, (.c (.int .i64 (.lit 5)))), (1, 1, (.c (.str ⟨#[98, 101, 113]⟩))), (2, 1, (.c (.int .i64 (.lit 3)))), (3, 1, (.c (.int .u32 (.lit 99)))), (4, 1, (.c (.int .u32 (.lit 0)))), (5, 1, (.c (.int .u32 (.lit 0)))), (6, 1, (.c (.int .i64 (.lit 3))))])), none⟩, ⟨(some 6), (.p (.build [(.int .i64 (.lit 0)), (.str ⟨#[]⟩), (.int .i64 (.lit 0)), (.int .u32 (.lit 0)), (.int .u32 (.lit 0)), (.int .u32 (.lit 0)), (.int .i64 (.lit 0))] [(0, 1, (.c (.int .i64 (.lit 6)))), (1, 1, (.c (.str ⟨#[98, 110, 101]⟩))), (2, 1, (.c (.int .i64 (.lit 3)))), (3, 1, (.c (.int .u32 (.lit 99)))), (4, 1, (.c (.int .u32 (.lit 1)))), (5, 1, (.c (.int .u32 (.lit 0)))), (6, 1, (.c (.int .i64 (.lit 3))))])), none⟩, ⟨(some 7), (.p (.build [(.int .i64 (.lit 0)), (.str ⟨#[]⟩), (.int .i64 (.lit 0)), (.int .u32 (.lit 0)), (.int .u32 (.lit 0)), (.int .u32 (.lit 0)), (.int .i64 (.lit 0))] [(0, 1, (.c (.int .i64 (.lit 7)))), (1, 1, (.c (.str ⟨#[98, 108, 116]⟩))), (2, 1, (.c (.int .i64 (.lit 3)))), (3, 1, (.c (.int .u32 (.lit 99)))), (4, 1, (.c (.int .u32 (.lit 4)))), (5, 1, (.c (.int .u32 (.lit 0)))), (6, 1, (.c (.int .i64 (.lit 3))))])), none⟩, ⟨(some 8), (.p (.build [(.int .i64 (.lit 0)), (.str ⟨#[]⟩), (.int .i64 (.lit 0)), (.int .u32 (.lit 0)), (.int .u32 (.lit 0)), (.int .u32 (.lit 0)), (.int .i64 (.lit 0))] [(0, 1, (.c (.int .i64 (.lit 8)))), (1, 1, (.c (.str ⟨#[98, 103, 101]⟩))), (2, 1, (.c (.int .i64 (.lit 3)))), (3, 1, (.c (.int .u32 (.lit 99)))), (4, 1, (.c (.int .u32 (.lit 5)))), (5, 1, (.c (.int .u32 (.lit 0)))), (6, 1, (.c (.int .i64 (.lit 3))))])), none⟩, ⟨(some 9), (.p (.build [(.int .i64 (.lit 0)), (.str ⟨#[]⟩), (.int .i64 (.lit 0)), (.int .u32 (.lit 0)), (.int .u32 (.lit 0)), (.int .u32 (.lit 0)), (.int .i64 (.lit 0))] [(0, 1, (.c (.int .i64 (.lit 9)))), (1, 1, (.c (.str ⟨#[98, 108, 116, 117]⟩))), (2, 1, (.c (.int .i64 (.lit 3)))), (3, 1, (.c (.int .u32 (.lit 99)))), (4, 1, (.c (.int .u32 (.lit 6)))), (5, 1, (.c (.int .u32 (.lit 0)))), (6, 1, (.c (.int .i64 (.lit 3))))])), none⟩, ⟨(some 10), (.p (.build [(.int .i64 (.lit 0)), (.str ⟨#[]⟩), (.int .i64 (.lit 0)), (.int .u32 (.lit 0)), (.int .u32 (.lit 0)), (.int .u32 (.lit 0)), (.int .i64 (.lit 0))] [(0, 1, (.c (.int .i64 (.lit 10)))), (1, 1, (.c (.str ⟨#[98, 103, 101, 117]⟩))), (2, 1, (.c (.int .i64 (.lit 3)))), (3, 1, (.c (.int .u32 (.lit 99)))), (4, 1, (.c (.int .u32 (.lit 7)))), (5, 1, (.c (.int .u32 (.lit 0)))), (6, 1, (.c (.int .i64 (.lit 3))))])), none⟩, ⟨(some 11), (.p (.build [(.int .i64 (.lit 0)), (.str ⟨#[]⟩), (.int .i64 (.lit 0)), (.int .u32 (.lit 0)), (.int .u32 (.lit 0)), (.int .u32 (.lit 0)), (.int .i64 (.lit 0))] [(0, 1, (.c (.int .i64 (.lit 11)))), (1, 1, (.c (.str ⟨#[108, 98]⟩))), (2, 1, (.c (.int .i64 (.lit 2)))), (3, 1, (.c (.int .u32 (.lit 3)))), (4, 1, (.c (.int .u32 (.lit 0)))), (5, 1, (.c (.int .u32 (.lit 0)))), (6, 1, (.c (.int .i64 (.lit 4))))])), none⟩, ⟨(some 12), (.p (.build [(.int .i64 (.lit 0)), (.str ⟨#[]⟩), (.int .i64 (.lit 0)), (.int .u32 (.lit 0)), (.int .u32 (.lit 0)), (.int .u32 (.lit 0)), (.int .i64 (.lit 0))] [(0, 1, (.c (.int .i64 (.lit 12)))), (1, 1, (.c (.str ⟨#[108, 104]⟩))), (2, 1, (.c (.int .i64 (.lit 2)))), (3, 1, (.c (.int .u32 (.lit 3)))), (4, 1, (.c (.int .u32 (.lit 1)))), (5, 1, (.c (.int .u32 (.lit 0)))), (6, 1, (.c (.int .i64 (.lit 4))))])), none⟩, ⟨(some 13), (.p (.build [(.int .i64 (.lit 0)), (.str ⟨#[]⟩), (.int .i64 (.lit 0)), (.int .u32 (.lit 0)), (.int .u32 (.lit 0)), (.int .u32 (.lit 0)), (.int .i64 (.lit 0))] [(0, 1, (.c (.int .i64 (.lit 13)))), (1, 1, (.c (.str ⟨#[108, 119]⟩))), (2, 1, (.c (.int .i64 (.lit 2)))), (3, 1, (.c (.int .u32 (.lit 3)))), (4, 1, (.c (.int .u32 (.lit 2)))), (5, 1, (.c (.int .u32 (.lit 0)))), (6, 1, (.c (.int .i64 (.lit 4))))])), none⟩, ⟨(some 14), (.p (.build [(.int .i64 (.lit 0)), (.str ⟨#[]⟩), (.int .i64 (.lit 0)), (.int .u32 (.lit 0)), (.int .u32 (.lit 0)), (.int .u32 (.lit 0)), (.int .i64 (.lit 0))] [(0, 1, (.c (.int .i64 (.lit 14)))), (1, 1, (.c (.str ⟨#[108, 98, 117]⟩))), (2, 1, (.c (.int .i64 (.lit 2)))), (3, 1, (.c (.int .u32 (.lit 3)))), (4, 1, (.c (.int .u32 (.lit 4)))), (5, 1, (.c (.int .u32 (.lit 0)))), (6, 1, (.c (.int .i64 (.lit 4))))])), none⟩, ⟨(some 15), (.p (.build [(.int .i64 (.lit 0)), (.str ⟨#[]⟩), (.int .i64 (.lit 0)), (.int .u32 (.lit 0)), (.int .u32 (.lit 0)), (.int .u32 (.lit 0)), (.int .i64 (.lit 0))] [(0, 1, (.c (.int .i64 (.lit 15)))), (1, 1, (.c (.str ⟨#[108, 104, 117]⟩))), (2, 1, (.c (.int .i64 (.lit 2)))), (3, 1, (.c (.int .u32 (.lit 3)))), (4, 1, (.c (.int .u32 (.lit 5)))), (5, 1, (.c (.int .u32 (.lit 0)))), (6, 1, (.c (.int .i64 (.lit 4))))])), none⟩, ⟨(some 16), (.p (.build [(.int .i64 (.lit 0)), (.str ⟨#[]⟩), (.int .i64 (.lit 0)), (.int .u32 (.lit 0)), (.int .u32 (.lit 0)), (.int .u32 (.lit 0)), (.int .i64 (.lit 0))] [(0, 1, (.c (.int .i64 (.lit 16)))), (1, 1, (.c (.str ⟨#[115, 98]⟩))), (2, 1, (.c (.int .i64 (.lit 4)))), (3, 1, (.c (.int .u32 (.lit 35)))), (4, 1, (.c (.int .u32 (.lit 0)))), (5, 1, (.c (.int .u32 (.lit 0)))), (6, 1, (.c (.int .i64 (.lit 5))))])), none⟩, ⟨(some 17), (.p (.build [(.int .i64 (.lit 0)), (.str ⟨#[]⟩), (.int .i64 (.lit 0)), (.int .u32 (.lit 0)), (.int .u32 (.lit 0)), (.int .u32 (.lit 0)), (.int .i64 (.lit 0))] [(0, 1, (.c (.int .i64 (.lit 17)))), (1, 1, (.c (.str ⟨#[115, 104]⟩))), (2, 1, (.c (.int .i64 (.lit 4)))), (3, 1, (.c (.int .u32 (.lit 35)))), (4, 1, (.c (.int .u32 (.lit 1)))), (5, 1, (.c (.int .u32 (.lit 0)))), (6, 1, (.c (.int .i64 (.lit 5))))])), none⟩, ⟨(some 18), (.p (.build [(.int .i64 (.lit 0)), (.str ⟨#[]⟩), (.int .i64 (.lit 0)), (.int .u32 (.lit 0)), (.int .u32 (.lit 0)), (.int .u32 (.lit 0)), (.int .i64 (.lit 0))] [(0, 1, (.c (.int .i64 (.lit 18)))), (1, 1, (.c (.str ⟨#[115, 119]⟩))), (2, 1, (.c (.int .i64 (.lit 4)))), (3, 1, (.c (.int .u32 (.lit 35)))), (4, 1, (.c (.int .u32 (.lit 2)))), (5, 1, (.c (.int .u32 (.lit 0)))), (6, 1, (.c (.int .i64 (.lit 5))))])), none⟩, ⟨(some 19), (.p (.build [(.int .i64 (.lit 0)), (.str ⟨#[]⟩), (.int .i64 (.lit 0)), (.int .u32 (.lit 0)), (.int .u32 (.lit 0)), (.int .u32 (.lit 0)), (.int .i64 (.lit 0))] [(0, 1, (.c (.int .i64 (.lit 19)))), (1, 1, (.c (.str ⟨#[97, 100, 100, 105]⟩))), (2, 1, (.c (.int .i64 (.lit 2)))), (3, 1, (.c (.int .u32 (.lit 19)))), (4, 1, (.c (.int .u32 (.lit 0)))), (5, 1, (.c (.int .u32 (.lit 0)))), (6, 1, (.c (.int .i64 (.lit 1))))])), none⟩, ⟨(some 20), (.p (.build [(.int .i64 (.lit 0)), (.str ⟨#[]⟩), (.int .i64 (.lit 0)), (.int .u32 (.lit 0)), (.int .u32 (.lit 0)), (.int .u32 (.lit 0)), (.int .i64 (.lit 0))] [(0, 1, (.c (.int .i64 (.lit 20)))), (1, 1, (.c (.str ⟨#[115, 108, 116, 105]⟩))), (2, 1, (.c (.int .i64 (.lit 2)))), (3, 1, (.c (.int .u32 (.lit 19)))), (4, 1, (.c (.int .u32 (.lit 2)))), (5, 1, (.c (.int .u32 (.lit 0)))), (6, 1, (.c (.int .i64 (.lit 1))))])), none⟩, ⟨(some 21), (.p (.build [(.int .i64 (.lit 0)), (.str ⟨#[]⟩), (.int .i64 (.lit 0)), (.int .u32 (.lit 0)), (.int .u32 (.lit 0)), (.int .u32 (.lit 0)), (.int .i64 (.lit 0))] [(0, 1, (.c (.int .i64 (.lit 21)))), (1, 1, (.c (.str ⟨#[115, 108, 116, 105, 117]⟩))), (2, 1, (.c (.int .i64 (.lit 2)))), (3, 1, (.c (.int .u32 (.lit 19)))), (4, 1, (.c (.int .u32 (.lit 3)))), (5, 1, (.c (.int .u32 (.lit 0)))), (6, 1, (.c (.int .i64 (.lit 1))))])), none⟩, ⟨(some 22), (.p (.build [(.int .i64 (.lit 0)), (.str ⟨#[]⟩), (.int .i64 (.lit 0)), (.int .u32 (.lit 0)), (.int .u32 (.lit 0)), (.int .u32 (.lit 0)), (.int .i64 (.lit 0))] [(0, 1, (.c (.int .i64 (.lit 22)))), (1, 1, (.c (.str ⟨#[120, 111, 114, 105]⟩))), (2, 1, (.c (.int .i64 (.lit 2)))), (3, 1, (.c (.int .u32 (.lit 19)))), (4, 1, (.c (.int .u32 (.lit 4)))), (5, 1, (.c (.int .u32 (.lit 0)))), (6, 1, (.c (.int .i64 (.lit 1))))])), none⟩, ⟨(some 23), (.p (.build [(.int .i64 (.lit 0)), (.str ⟨#[]⟩), (.int .i64 (.lit 0)), (.int .u32 (.lit 0)), (.int .u32 (.lit 0)), (.int .u32 (.lit 0)), (.int .i64 (.lit 0))] [(0, 1, (.c (.int .i64 (.lit 23)))), (1, 1, (.c (.str ⟨#[111, 114, 105]⟩))), (2, 1, (.c (.int .i64 (.lit 2)))), (3, 1, (.c (.int .u32 (.lit 19)))), (4, 1, (.c (.int .u32 (.lit 6)))), (5, 1, (.c (.int .u32 (.lit 0)))), (6, 1, (.c (.int .i64 (.lit 1))))])), none⟩, ⟨(some 24), (.p (.build [(.int .i64 (.lit 0)), (.str ⟨#[]⟩), (.int .i64 (.lit 0)), (.int .u32 (.lit 0)), (.int .u32 (.lit 0)), (.int .u32 (.lit 0)), (.int .i64 (.lit 0))] [(0, 1, (.c (.int .i64 (.lit 24)))), (1, 1, (.c (.str ⟨#[97, 110, 100, 105]⟩))), (2, 1, (.c (.int .i64 (.lit 2)))), (3, 1, (.c (.int .u32 (.lit 19)))), (4, 1, (.c (.int .u32 (.lit 7)))), (5, 1, (.c (.int .u32 (.lit 0)))), (6, 1, (.c (.int .i64 (.lit 1))))])), none⟩, ⟨(some 25), (.p (.build [(.int .i64 (.lit 0)), (.str ⟨#[]⟩), (.int .i64 (.lit 0)), (.int .u32 (.lit 0)), (.int .u32 (.lit 0)), (.int .u32 (.lit 0)), (.int .i64 (.lit 0))] [(0, 1, (.c (.int .i64 (.lit 25)))), (1, 1, (.c (.str ⟨#[115, 108, 108, 105]⟩))), (2, 1, (.c (.int .i64 (.lit 5)))), (3, 1, (.c (.int .u32 (.lit 19)))), (4, 1, (.c (.int .u32 (.lit 1)))), (5, 1, (.c (.int .u32 (.lit 0)))), (6, 1, (.c (.int .i64 (.lit 1))))])), none⟩, ⟨(some 26), (.p (.build [(.int .i64 (.lit 0)), (.str ⟨#[]⟩), (.int .i64 (.lit 0)), (.int .u32 (.lit 0)), (.int .u32 (.lit 0)), (.int .u32 (.lit 0)), (.int .i64 (.lit 0))] [(0, 1, (.c (.int .i64 (.lit 26)))), (1, 1, (.c (.str ⟨#[115, 114, 108, 105]⟩))), (2, 1, (.c (.int .i64 (.lit 5)))), (3, 1, (.c (.int .u32 (.lit 19)))), (4, 1, (.c (.int .u32 (.lit 5)))), (5, 1, (.c (.int .u32 (.lit 0)))), (6, 1, (.c (.int .i64 (.lit 1))))])), none⟩, ⟨(some 27), (.p (.build [(.int .i64 (.lit 0)), (.str ⟨#[]⟩), (.int .i64 (.lit 0)), (.int .u32 (.lit 0)), (.int .u32 (.lit 0)), (.int .u32 (.lit 0)), (.int .i64 (.lit 0))] [(0, 1, (.c (.int .i64 (.lit 27)))), (1, 1, (.c (.str ⟨#[115, 114, 97, 105]⟩))), (2, 1, (.c (.int .i64 (.lit 5)))), (3, 1, (.c (.int .u32 (.lit 19)))), (4, 1, (.c (.int .u32 (.lit 5)))), (5, 1, (.c (.int .u32 (.lit 32)))), (6, 1, (.c (.int .i64 (.lit 1))))])), none⟩, ⟨(some 28), (.p (.build [(.int .i64 (.lit 0)), (.str ⟨#[]⟩), (.int .i64 (.lit 0)), (.int .u32 (.lit 0)), (.int .u32 (.lit 0)), (.int .u32 (.lit 0)), (.int .i64 (.lit 0))] [(0, 1, (.c (.int .i64 (.lit 28)))), (1, 1, (.c (.str ⟨#[97, 100, 100]⟩))), (2, 1, (.c (.int .i64 (.lit 6)))), (3, 1, (.c (.int .u32 (.lit 51)))), (4, 1, (.c (.int .u32 (.lit 0)))), (5, 1, (.c (.int .u32 (.lit 0)))), (6, 1, (.c (.int .i64 (.lit 1))))])), none⟩, ⟨(some 29), (.p (.build [(.int .i64 (.lit 0)), (.str ⟨#[]⟩), (.int .i64 (.lit 0)), (.int .u32 (.lit 0)), (.int .u32 (.lit 0)), (.int .u32 (.lit 0)), (.int .i64 (.lit 0))] [(0, 1, (.c (.int .i64 (.lit 29)))), (1, 1, (.c (.str ⟨#[115, 117, 98]⟩))), (2, 1, (.c (.int .i64 (.lit 6)))), (3, 1, (.c (.int .u32 (.lit 51)))), (4, 1, (.c (.int .u32 (.lit 0)))), (5, 1, (.c (.int .u32 (.lit 32)))), (6, 1, (.c (.int .i64 (.lit 1))))])), none⟩, ⟨(some 30), (.p (.build [(.int .i64 (.lit 0)), (.str ⟨#[]⟩), (.int .i64 (.lit 0)), (.int .u32 (.lit 0)), (.int .u32 (.lit 0)), (.int .u32 (.lit 0)), (.int .i64 (.lit 0))] [(0, 1, (.c (.int .i64 (.lit 30)))), (1, 1, (.c (.str ⟨#[115, 108, 108]⟩))), (2, 1, (.c (.int .i64 (.lit 6)))), (3, 1, (.c (.int .u32 (.lit 51)))), (4, 1, (.c (.int .u32 (.lit 1)))), (5, 1, (.c (.int .u32 (.lit 0)))), (6, 1, (.c (.int .i64 (.lit 1))))])), none⟩, ⟨(some 31), (.p (.build [(.int .i64 (.lit 0)), (.str ⟨#[]⟩), (.int .i64 (.lit 0)), (.int .u32 (.lit 0)), (.int .u32 (.lit 0)), (.int .u32 (.lit 0)), (.int .i64 (.lit 0))] [(0, 1, (.c (.int .i64 (.lit 31)))), (1, 1, (.c (.str ⟨#[115, 108, 116]⟩))), (2, 1, (.c (.int .i64 (.lit 6)))), (3, 1, (.c (.int .u32 (.lit 51)))), (4, 1, (.c (.int .u32 (.lit 2)))), (5, 1, (.c (.int .u32 (.lit 0)))), (6, 1, (.c (.int .i64 (.lit 1))))])), none⟩, ⟨(some 32), (.p (.build [(.int .i64 (.lit 0)), (.str ⟨#[]⟩), (.int .i64 (.lit 0)), (.int .u32 (.lit 0)), (.int .u32 (.lit 0)), (.int .u32 (.lit 0)), (.int .i64 (.lit 0))] [(0, 1, (.c (.int .i64 (.lit 32)))), (1, 1, (.c (.str ⟨#[115, 108, 116, 117]⟩))), (2, 1, (.c (.int .i64 (.lit 6)))), (3, 1, (.c (.int .u32 (.lit 51)))), (4, 1, (.c (.int .u32 (.lit 3)))), (5, 1, (.c (.int .u32 (.lit 0)))), (6, 1, (.c (.int .i64 (.lit 1))))])), none⟩, ⟨(some 33), (.p (.build [(.int .i64 (.lit 0)), (.str ⟨#[]⟩), (.int .i64 (.lit 0)), (.int .u32 (.lit 0)), (.int .u32 (.lit 0)), (.int .u32 (.lit 0)), (.int .i64 (.lit 0))] [(0, 1, (.c (.int .i64 (.lit 33)))), (1, 1, (.c (.str ⟨#[120, 111, 114]⟩))), (2, 1, (.c (.int .i64 (.lit 6)))), (3, 1, (.c (.int .u32 (.lit 51)))), (4, 1, (.c (.int .u32 (.lit 4)))), (5, 1, (.c (.int .u32 (.lit 0)))), (6, 1, (.c (.int .i64 (.lit 1))))])), none⟩, ⟨(some 34), (.p (.build [(.int .i64 (.lit 0)), (.str ⟨#[]⟩), (.int .i64 (.lit 0)), (.int .u32 (.lit 0)), (.int .u32 (.lit 0)), (.int .u32 (.lit 0)), (.int .i64 (.lit 0))] [(0, 1, (.c (.int .i64 (.lit 34)))), (1, 1, (.c (.str ⟨#[115, 114, 108]⟩))), (2, 1, (.c (.int .i64 (.lit 6)))), (3, 1, (.c (.int .u32 (.lit 51)))), (4, 1, (.c (.int .u32 (.lit 5)))), (5, 1, (.c (.int .u32 (.lit 0)))), (6, 1, (.c (.int .i64 (.lit 1))))])), none⟩, ⟨(some 35), (.p (.build [(.int .i64 (.lit 0)), (.str ⟨#[]⟩), (.int .i64 (.lit 0)), (.int .u32 (.lit 0)), (.int .u32 (.lit 0)), (.int .u32 (.lit 0)), (.int .i64 (.lit 0))] [(0, 1, (.c (.int .i64 (.lit 35)))), (1, 1, (.c (.str ⟨#[115, 114, 97]⟩))), (2, 1, (.c (.int .i64 (.lit 6)))), (3, 1, (.c (.int .u32 (.lit 51)))), (4, 1, (.c (.int .u32 (.lit 5)))), (5, 1, (.c (.int .u32 (.lit 32)))), (6, 1, (.c (.int .i64 (.lit 1))))])), none⟩, ⟨(some 36), (.p (.build [(.int .i64 (.lit 0)), (.str ⟨#[]⟩), (.int .i64 (.lit 0)), (.int .u32 (.lit 0)), (.int .u32 (.lit 0)), (.int .u32 (.lit 0)), (.int .i64 (.lit 0))] [(0, 1, (.c (.int .i64 (.lit 36)))), (1, 1, (.c (.str ⟨#[111, 114]⟩))), (2, 1, (.c (.int .i64 (.lit 6)))), (3, 1, (.c (.int .u32 (.lit 51)))), (4, 1, (.c (.int .u32 (.lit 6)))), (5, 1, (.c (.int .u32 (.lit 0)))), (6, 1, (.c (.int .i64 (.lit 1))))])), none⟩, ⟨(some 37), (.p (.build [(.int .i64 (.lit 0)), (.str ⟨#[]⟩), (.int .i64 (.lit 0)), (.int .u32 (.lit 0)), (.int .u32 (.lit 0)), (.int .u32 (.lit 0)), (.int .i64 (.lit 0))] [(0, 1, (.c (.int .i64 (.lit 37)))), (1, 1, (.c (.str ⟨#[97, 110, 100]⟩))), (2, 1, (.c (.int .i64 (.lit 6)))), (3, 1, (.c (.int .u32 (.lit 51)))), (4, 1, (.c (.int .u32 (.lit 7)))), (5, 1, (.c (.int .u32 (.lit 0)))), (6, 1, (.c (.int .i64 (.lit 1))))])), none⟩, ⟨(some 38), (.p (.build [(.int .i64 (.lit 0)), (.str ⟨#[]⟩), (.int .i64 (.lit 0)), (.int .u32 (.lit 0)), (.int .u32 (.lit 0)), (.int .u32 (.lit 0)), (.int .i64 (.lit 0))] [(0, 1, (.c (.int .i64 (.lit 38)))), (1, 1, (.c (.str ⟨#[102, 101, 110, 99, 101]⟩))), (2, 1, (.c (.int .i64 (.lit 7)))), (3, 1, (.c (.int .u32 (.lit 15)))), (4, 1, (.c (.int .u32 (.lit 0)))), (5, 1, (.c (.int .u32 (.lit 0)))), (6, 1, (.c (.int .i64 (.lit 7))))])), none⟩, ⟨(some 39), (.p (.build [(.int .i64 (.lit 0)), (.str ⟨#[]⟩), (.int .i64 (.lit 0)), (.int .u32 (.lit 0)), (.int .u32 (.lit 0)), (.int .u32 (.lit 0)), (.int .i64 (.lit 0))] [(0, 1, (.c (.int .i64 (.lit 39)))), (1, 1, (.c (.str ⟨#[102, 101, 110, 99, 101, 46, 105]⟩))), (2, 1, (.c (.int .i64 (.lit 8)))), (3, 1, (.c (.int .u32 (.lit 4111)))), (4, 1, (.c (.int .u32 (.lit 0)))), (5, 1, (.c (.int .u32 (.lit 0)))), (6, 1, (.c (.int .i64 (.lit 7))))])), none⟩, ⟨(some 40), (.p (.build [(.int .i64 (.lit 0)), (.str ⟨#[]⟩), (.int .i64 (.lit 0)), (.int .u32 (.lit 0)), (.int .u32 (.lit 0)), (.int .u32 (.lit 0)), (.int .i64 (.lit 0))] [(0, 1, (.c (.int .i64 (.lit 40)))), (1, 1, (.c (.str ⟨#[101, 99, 97, 108, 108]⟩))), (2, 1, (.c (.int .i64 (.lit 8)))), (3, 1, (.c (.int .u32 (.lit 115)))), (4, 1, (.c (.int .u32 (.lit 0)))), (5, 1, (.c (.int .u32 (.lit 0)))), (6, 1, (.c (.int .i64 (.lit 7))))])), none⟩, ⟨(some 41), (.p (.build [(.int .i64 (.lit 0)), (.str ⟨#[]⟩), (.int .i64 (.lit 0)), (.int .u32 (.lit 0)), (.int .u32 (.lit 0)), (.int .u32 (.lit 0)), (.int .i64 (.lit 0))] [(0, 1, (.c (.int .i64 (.lit 41)))), (1, 1, (.c (.str ⟨#[101, 98, 114, 101, 97, 107]⟩))), (2, 1, (.c (.int .i64 (.lit 8)))), (3, 1, (.c (.int .u32 (.lit 1048691)))), (4, 1, (.c (.int .u32 (.lit 0)))), (5, 1, (.c (.int .u32 (.lit 0)))), (6, 1, (.c (.int .i64 (.lit 7))))])), none⟩, ⟨(some 42), (.p (.build [(.int .i64 (.lit 0)), (.str ⟨#[]⟩), (.int .i64 (.lit 0)), (.int .u32 (.lit 0)), (.int .u32 (.lit 0)), (.int .u32 (.lit 0)), (.int .i64 (.lit 0))] [(0, 1, (.c (.int .i64 (.lit 42)))), (1, 1, (.c (.str ⟨#[109, 114, 101, 116]⟩))), (2, 1, (.c (.int .i64 (.lit 8)))), (3, 1, (.c (.int .u32 (.lit 807403635)))), (4, 1, (.c (.int .u32 (.lit 0)))), (5, 1, (.c (.int .u32 (.lit 0)))), (6, 1, (.c (.int .i64 (.lit 7))))])), none⟩, ⟨(some 43), (.p (.build [(.int .i64 (.lit 0)), (.str ⟨#[]⟩), (.int .i64 (.lit 0)), (.int .u32 (.lit 0)), (.int .u32 (.lit 0)), (.int .u32 (.lit 0)), (.int .i64 (.lit 0))] [(0, 1, (.c (.int .i64 (.lit 43)))), (1, 1, (.c (.str ⟨#[119, 102, 105]⟩))), (2, 1, (.c (.int .i64 (.lit 8)))), (3, 1, (.c (.int .u32 (.lit 273678451)))), (4, 1, (.c (.int .u32 (.lit 0)))), (5, 1, (.c (.int .u32 (.lit 0)))), (6, 1, (.c (.int .i64 (.lit 7))))])), none⟩, ⟨(some 44), (.p (.build [(.int .i64 (.lit 0)), (.str ⟨#[]⟩), (.int .i64 (.lit 0)), (.int .u32 (.lit 0)), (.int .u32 (.lit 0)), (.int .u32 (.lit 0)), (.int .i64 (.lit 0))] [(0, 1, (.c (.int .i64 (.lit 44)))), (1, 1, (.c (.str ⟨#[115, 102, 101, 110, 99, 101, 46, 118, 109, 97]⟩))), (2, 1, (.c (.int .i64 (.lit 9)))), (3, 1, (.c (.int .u32 (.lit 115)))), (4, 1, (.c (.int .u32 (.lit 0)))), (5, 1, (.c (.int .u32 (.lit 9)))), (6, 1, (.c (.int .i64 (.lit 7))))])), none⟩, ⟨(some 45), (.p (.build [(.int .i64 (.lit 0)), (.str ⟨#[]⟩), (.int .i64 (.lit 0)), (.int .u32 (.lit 0)), (.int .u32 (.lit 0)), (.int .u32 (.lit 0)), (.int .i64 (.lit 0))] [(0, 1, (.c (.int .i64 (.lit 45)))), (1, 1, (.c (.str ⟨#[99, 115, 114, 114, 119]⟩))), (2, 1, (.c (.int .i64 (.lit 10)))), (3, 1, (.c (.int .u32 (.lit 115)))), (4, 1, (.c (.int .u32 (.lit 1)))), (5, 1, (.c (.int .u32 (.lit 0)))), (6, 1, (.c (.int .i64 (.lit 7))))])), none⟩, ⟨(some 46), (.p (.build [(.int .i64 (.lit 0)), (.str ⟨#[]⟩), (.int .i64 (.lit 0)), (.int .u32 (.lit 0)), (.int .u32 (.lit 0)), (.int .u32 (.lit 0)), (.int .i64 (.lit 0))] [(0, 1, (.c (.int .i64 (.lit 46)))), (1, 1, (.c (.str ⟨#[99, 115, 114, 114, 115]⟩))), (2, 1, (.c (.int .i64 (.lit 10)))), (3, 1, (.c (.int .u32 (.lit 115)))), (4, 1, (.c (.int .u32 (.lit 2)))), (5, 1, (.c (.int .u32 (.lit 0)))), (6, 1, (.c (.int .i64 (.lit 7))))])), none⟩, ⟨(some 47), (.p (.build [(.int .i64 (.lit 0)), (.str ⟨#[]⟩), (.int .i64 (.lit 0)), (.int .u32 (.lit 0)), (.int .u32 (.lit 0)), (.int .u32 (.lit 0)), (.int .i64 (.lit 0))] [(0, 1, (.c (.int .i64 (.lit 47)))), (1, 1, (.c (.str ⟨#[99, 115, 114, 114, 99]⟩))), (2, 1, (.c (.int .i64 (.lit 10)))), (3, 1, (.c (.int .u32 (.lit 115)))), (4, 1, (.c (.int .u32 (.lit 3)))), (5, 1, (.c (.int .u32 (.lit 0)))), (6, 1, (.c (.int .i64 (.lit 7))))])), none⟩, ⟨(some 48), (.p (.build [(.int .i64 (.lit 0)), (.str ⟨#[]⟩), (.int .i64 (.lit 0)), (.int .u32 (.lit 0)), (.int .u32 (.lit 0)), (.int .u32 (.lit 0)), (.int .i64 (.lit 0))] [(0, 1, (.c (.int .i64 (.lit 48)))), (1, 1, (.c (.str ⟨#[99, 115, 114, 114, 119, 105]⟩))), (2, 1, (.c (.int .i64 (.lit 11)))), (3, 1, (.c (.int .u32 (.lit 115)))), (4, 1, (.c (.int .u32 (.lit 5)))), (5, 1, (.c (.int .u32 (.lit 0)))), (6, 1, (.c (.int .i64 (.lit 7))))])), none⟩, ⟨(some 49), (.p (.build [(.int .i64 (.lit 0)), (.str ⟨#[]⟩), (.int .i64 (.lit 0)), (.int .u32 (.lit 0)), (.int .u32 (.lit 0)), (.int .u32 (.lit 0)), (.int .i64 (.lit 0))] [(0, 1, (.c (.int .i64 (.lit 49)))), (1, 1, (.c (.str ⟨#[99, 115, 114, 114, 115, 105]⟩))), (2, 1, (.c (.int .i64 (.lit 11)))), (3, 1, (.c (.int .u32 (.lit 115)))), (4, 1, (.c (.int .u32 (.lit 6)))), (5, 1, (.c (.int .u32 (.lit 0)))), (6, 1, (.c (.int .i64 (.lit 7))))])), none⟩, ⟨(some 50), (.p (.build [(.int .i64 (.lit 0)), (.str ⟨#[]⟩), (.int .i64 (.lit 0)), (.int .u32 (.lit 0)), (.int .u32 (.lit 0)), (.int .u32 (.lit 0)), (.int .i64 (.lit 0))] [(0, 1, (.c (.int .i64 (.lit 50)))), (1, 1, (.c (.str ⟨#[99, 115, 114, 114, 99, 105]⟩))), (2, 1, (.c (.int .i64 (.lit 11)))), (3, 1, (.c (.int .u32 (.lit 115)))), (4, 1, (.c (.int .u32 (.lit 7)))), (5, 1, (.c (.int .u32 (.lit 0)))), (6, 1, (.c (.int .i64 (.lit 7))))])), none⟩, ⟨(some 51), (.p (.build [(.int .i64 (.lit 0)), (.str ⟨#[]⟩), (.int .i64 (.lit 0)), (.int .u32 (.lit 0)), (.int .u32 (.lit 0)), (.int .u32 (.lit 0)), (.int .i64 (.lit 0))] [(0, 1, (.c (.int .i64 (.lit 51)))), (1, 1, (.c (.str ⟨#[109, 117, 108]⟩))), (2, 1, (.c (.int .i64 (.lit 6)))), (3, 1, (.c (.int .u32 (.lit 51)))), (4, 1, (.c (.int .u32 (.lit 0)))), (5, 1, (.c (.int .u32 (.lit 1)))), (6, 1, (.c (.int .i64 (.lit 1))))])), none⟩, ⟨(some 52), (.p (.build [(.int .i64 (.lit 0)), (.str ⟨#[]⟩), (.int .i64 (.lit 0)), (.int .u32 (.lit 0)), (.int .u32 (.lit 0)), (.int .u32 (.lit 0)), (.int .i64 (.lit 0))] [(0, 1, (.c (.int .i64 (.lit 52)))), (1, 1, (.c (.str ⟨#[109, 117, 108, 104]⟩))), (2, 1, (.c (.int .i64 (.lit 6)))), (3, 1, (.c (.int .u32 (.lit 51)))), (4, 1, (.c (.int .u32 (.lit 1)))), (5, 1, (.c (.int .u32 (.lit 1)))), (6, 1, (.c (.int .i64 (.lit 1))))])), none⟩, ⟨(some 53), (.p (.build [(.int .i64 (.lit 0)), (.str ⟨#[]⟩), (.int .i64 (.lit 0)), (.int .u32 (.lit 0)), (.int .u32 (.lit 0)), (.int .u32 (.lit 0)), (.int .i64 (.lit 0))] [(0, 1, (.c (.int .i64 (.lit 53)))), (1, 1, (.c (.str ⟨#[109, 117, 108, 104, 115, 117]⟩))), (2, 1, (.c (.int .i64 (.lit 6)))), (3, 1, (.c (.int .u32 (.lit 51)))), (4, 1, (.c (.int .u32 (.lit 2)))), (5, 1, (.c (.int .u32 (.lit 1)))), (6, 1, (.c (.int .i64 (.lit 1))))])), none⟩, ⟨(some 54), (.p (.build [(.int .i64 (.lit 0)), (.str ⟨#[]⟩), (.int .i64 (.lit 0)), (.int .u32 (.lit 0)), (.int .u32 (.lit 0)), (.int .u32 (.lit 0)), (.int .i64 (.lit 0))] [(0, 1, (.c (.int .i64 (.lit 54)))), (1, 1, (.c (.str ⟨#[109, 117, 108, 104, 117]⟩))), (2, 1, (.c (.int .i64 (.lit 6)))), (3, 1, (.c (.int .u32 (.lit 51)))), (4, 1, (.c (.int .u32 (.lit 3)))), (5, 1, (.c (.int .u32 (.lit 1)))), (6, 1, (.c (.int .i64 (.lit 1))))])), none⟩, ⟨(some 55), (.p (.build [(.int .i64 (.lit 0)), (.str ⟨#[]⟩), (.int .i64 (.lit 0)), (.int .u32 (.lit 0)), (.int .u32 (.lit 0)), (.int .u32 (.lit 0)), (.int .i64 (.lit 0))] [(0, 1, (.c (.int .i64 (.lit 55)))), (1, 1, (.c (.str ⟨#[100, 105, 118]⟩))), (2, 1, (.c (.int .i64 (.lit 6)))), (3, 1, (.c (.int .u32 (.lit 51)))), (4, 1, (.c (.int .u32 (.lit 4)))), (5, 1, (.c (.int .u32 (.lit 1)))), (6, 1, (.c (.int .i64 (.lit 1))))])), none⟩, ⟨(some 56), (.p (.build [(.int .i64 (.lit 0)), (.str ⟨#[]⟩), (.int .i64 (.lit 0)), (.int .u32 (.lit 0)), (.int .u32 (.lit 0)), (.int .u32 (.lit 0)), (.int .i64 (.lit 0))] [(0, 1, (.c (.int .i64 (.lit 56)))), (1, 1, (.c (.str ⟨#[100, 105, 118, 117]⟩))), (2, 1, (.c (.int .i64 (.lit 6)))), (3, 1, (.c (.int .u32 (.lit 51)))), (4, 1, (.c (.int .u32 (.lit 5)))), (5, 1, (.c (.int .u32 (.lit 1)))), (6, 1, (.c (.int .i64 (.lit 1))))])), none⟩, ⟨(some 57), (.p (.build [(.int .i64 (.lit 0)), (.str ⟨#[]⟩), (.int .i64 (.lit 0)), (.int .u32 (.lit 0)), (.int .u32 (.lit 0)), (.int .u32 (.lit 0)), (.int .i64 (.lit 0))] [(0, 1, (.c (.int .i64 (.lit 57)))), (1, 1, (.c (.str ⟨#[114, 101, 109]⟩))), (2, 1, (.c (.int .i64 (.lit 6)))), (3, 1, (.c (.int .u32 (.lit 51)))), (4, 1, (.c (.int .u32 (.lit 6)))), (5, 1, (.c (.int .u32 (.lit 1)))), (6, 1, (.c (.int .i64 (.lit 1))))])), none⟩, ⟨(some 58), (.p (.build [(.int .i64 (.lit 0)), (.str ⟨#[]⟩), (.int .i64 (.lit 0)), (.int .u32 (.lit 0)), (.int .u32 (.lit 0)), (.int .u32 (.lit 0)), (.int .i64 (.lit 0))] [(0, 1, (.c (.int .i64 (.lit 58)))), (1, 1, (.c (.str ⟨#[114, 101, 109, 117]⟩))), (2, 1, (.c (.int .i64 (.lit 6)))), (3, 1, (.c (.int .u32 (.lit 51)))), (4, 1, (.c (.int .u32 (.lit 7)))), (5, 1, (.c (.int .u32 (.lit 1)))), (6, 1, (.c (.int .i64 (.lit 1))))])), none⟩, ⟨(some 59), (.p (.build [(.int .i64 (.lit 0)), (.str ⟨#[]⟩), (.int .i64 (.lit 0)), (.int .u32 (.lit 0)), (.int .u32 (.lit 0)), (.int .u32 (.lit 0)), (.int .i64 (.lit 0))] [(0, 1, (.c (.int .i64 (.lit 59)))), (1, 1, (.c (.str ⟨#[108, 114, 46, 119]⟩))), (2, 1, (.c (.int .i64 (.lit 12)))), (3, 1, (.c (.int .u32 (.lit 47)))), (4, 1, (.c (.int .u32 (.lit 2)))), (5, 1, (.c (.int .u32 (.lit 2)))), (6, 1, (.c (.int .i64 (.lit 4))))])), none⟩, ⟨(some 60), (.p (.build [(.int .i64 (.lit 0)), (.str ⟨#[]⟩), (.int .i64 (.lit 0)), (.int .u32 (.lit 0)), (.int .u32 (.lit 0)), (.int .u32 (.lit 0)), (.int .i64 (.lit 0))] [(0, 1, (.c (.int .i64 (.lit 60)))), (1, 1, (.c (.str ⟨#[115, 99, 46, 119]⟩))), (2, 1, (.c (.int .i64 (.lit 13)))), (3, 1, (.c (.int .u32 (.lit 47)))), (4, 1, (.c (.int .u32 (.lit 2)))), (5, 1, (.c (.int .u32 (.lit 3)))), (6, 1, (.c (.int .i64 (.lit 6))))])), none⟩, ⟨(some 61), (.p (.build [(.int .i64 (.lit 0)), (.str ⟨#[]⟩), (.int .i64 (.lit 0)), (.int .u32 (.lit 0)), (.int .u32 (.lit 0)), (.int .u32 (.lit 0)), (.int .i64 (.lit 0))] [(0, 1, (.c (.int .i64 (.lit 61)))), (1, 1, (.c (.str ⟨#[97, 109, 111, 115, 119, 97, 112, 46, 119]⟩))), (2, 1, (.c (.int .i64 (.lit 13)))), (3, 1, (.c (.int .u32 (.lit 47)))), (4, 1, (.c (.int .u32 (.lit 2)))), (5, 1, (.c (.int .u32 (.lit 1)))), (6, 1, (.c (.int .i64 (.lit 6))))])), none⟩, ⟨(some 62), (.p (.build [(.int .i64 (.lit 0)), (.str ⟨#[]⟩), (.int .i64 (.lit 0)), (.int .u32 (.lit 0)), (.int .u32 (.lit 0)), (.int .u32 (.lit 0)), (.int .i64 (.lit 0))] [(0, 1, (.c (.int .i64 (.lit 62)))), (1, 1, (.c (.str ⟨#[97, 109, 111, 97, 100, 100, 46, 119]⟩))), (2, 1, (.c (.int .i64 (.lit 13)))), (3, 1, (.c (.int .u32 (.lit 47)))), (4, 1, (.c (.int .u32 (.lit 2)))), (5, 1, (.c (.int .u32 (.lit 0)))), (6, 1, (.c (.int .i64 (.lit 6))))])), none⟩, ⟨(some 63), (.p (.build [(.int .i64 (.lit 0)), (.str ⟨#[]⟩), (.int .i64 (.lit 0)), (.int .u32 (.lit 0)), (.int .u32 (.lit 0)), (.int .u32 (.lit 0)), (.int .i64 (.lit 0))] [(0, 1, (.c (.int .i64 (.lit 63)))), (1, 1, (.c (.str ⟨#[97, 109, 111, 120, 111, 114, 46, 119]⟩))), (2, 1, (.c (.int .i64 (.lit 13)))), (3, 1, (.c (.int .u32 (.lit 47)))), (4, 1, (.c (.int .u32 (.lit 2)))), (5, 1, (.c (.int .u32 (.lit 4)))), (6, 1, (.c (.int .i64 (.lit 6))))])), none⟩, ⟨(some 64), (.p (.build [(.int .i64 (.lit 0)), (.str ⟨#[]⟩), (.int .i64 (.lit 0)), (.int .u32 (.lit 0)), (.int .u32 (.lit 0)), (.int .u32 (.lit 0)), (.int .i64 (.lit 0))] [(0, 1, (.c (.int .i64 (.lit 64)))), (1, 1, (.c (.str ⟨#[97, 109, 111, 97, 110, 100, 46, 119]⟩))), (2, 1, (.c (.int .i64 (.lit 13)))), (3, 1, (.c (.int .u32 (.lit 47)))), (4, 1, (.c (.int .u32 (.lit 2)))), (5, 1, (.c (.int .u32 (.lit 12)))), (6, 1, (.c (.int .i64 (.lit 6))))])), none⟩, ⟨(some 65), (.p (.build [(.int .i64 (.lit 0)), (.str ⟨#[]⟩), (.int .i64 (.lit 0)), (.int .u32 (.lit 0)), (.int .u32 (.lit 0)), (.int .u32 (.lit 0)), (.int .i64 (.lit 0))] [(0, 1, (.c (.int .i64 (.lit 65)))), (1, 1, (.c (.str ⟨#[97, 109, 111, 111, 114, 46, 119]⟩))), (2, 1, (.c (.int .i64 (.lit 13)))), (3, 1, (.c (.int .u32 (.lit 47)))), (4, 1, (.c (.int .u32 (.lit 2)))), (5, 1, (.c (.int .u32 (.lit 8)))), (6, 1, (.c (.int .i64 (.lit 6))))])), none⟩, ⟨(some 66), (.p (.build [(.int .i64 (.lit 0)), (.str ⟨#[]⟩), (.int .i64 (.lit 0)), (.int .u32 (.lit 0)), (.int .u32 (.lit 0)), (.int .u32 (.lit 0)), (.int .i64 (.lit 0))] [(0, 1, (.c (.int .i64 (.lit 66)))), (1, 1, (.c (.str ⟨#[97, 109, 111, 109, 105, 110, 46, 119]⟩))), (2, 1, (.c (.int .i64 (.lit 13)))), (3, 1, (.c (.int .u32 (.lit 47)))), (4, 1, (.c (.int .u32 (.lit 2)))), (5, 1, (.c (.int .u32 (.lit 16)))), (6, 1, (.c (.int .i64 (.lit 6))))])), none⟩, ⟨(some 67), (.p (.build [(.int .i64 (.lit 0)), (.str ⟨#[]⟩), (.int .i64 (.lit 0)), (.int .u32 (.lit 0)), (.int .u32 (.lit 0)), (.int .u32 (.lit 0)), (.int .i64 (.lit 0))] [(0, 1, (.c (.int .i64 (.lit 67)))), (1, 1, (.c (.str ⟨#[97, 109, 111, 109, 97, 120, 46, 119]⟩))), (2, 1, (.c (.int .i64 (.lit 13)))), (3, 1, (.c (.int .u32 (.lit 47)))), (4, 1, (.c (.int .u32 (.lit 2)))), (5, 1, (.c (.int .u32 (.lit 20)))), (6, 1, (.c (.int .i64 (.lit 6))))])), none⟩, ⟨(some 68), (.p (.build [(.int .i64 (.lit 0)), (.str ⟨#[]⟩), (.int .i64 (.lit 0)), (.int .u32 (.lit 0)), (.int .u32 (.lit 0)), (.int .u32 (.lit 0)), (.int .i64 (.lit 0))] [(0, 1, (.c (.int .i64 (.lit 68)))), (1, 1, (.c (.str ⟨#[97, 109, 111, 109, 105, 110, 117, 46, 119]⟩))), (2, 1, (.c (.int .i64 (.lit 13)))), (3, 1, (.c (.int .u32 (.lit 47)))), (4, 1, (.c (.int .u32 (.lit 2)))), (5, 1, (.c (.int .u32 (.lit 24)))), (6, 1, (.c (.int .i64 (.lit 6))))])), none⟩, ⟨(some 69), (.p (.build [(.int .i64 (.lit 0)), (.str ⟨#[]⟩), (.int .i64 (.lit 0)), (.int .u32 (.lit 0)), (.int .u32 (.lit 0)), (.int .u32 (.lit 0)), (.int .i64 (.lit 0))] [(0, 1, (.c (.int .i64 (.lit 69)))), (1, 1, (.c (.str ⟨#[97, 109, 111, 109, 97, 120, 117, 46, 119]⟩))), (2, 1, (.c (.int .i64 (.lit 13)))), (3, 1, (.c (.int .u32 (.lit 47)))), (4, 1, (.c (.int .u32 (.lit 2)))), (5, 1, (.c (.int .u32 (.lit 28)))), (6, 1, (.c (.int .i64 (.lit 6))))])), none⟩, ⟨(some 70), (.mkArr 7 69 [(.int .i64 (.lit 0)), (.str ⟨#[]⟩), (.int .i64 (.lit 0)), (.int .u32 (.lit 0)), (.int .u32 (.lit 0)), (.int .u32 (.lit 0)), (.int .i64 (.lit 0))] [(0, 7, (.t 1)), (7, 7, (.t 2)), (14, 7, (.t 3)), (21, 7, (.t 4)), (28, 7, (.t 5)), (35, 7, (.t 6)), (42, 7, (.t 7)), (49, 7, (.t 8)), (56, 7, (.t 9)), (63, 7, (.t 10)), (70, 7, (.t 11)), (77, 7, (.t 12)), (84, 7, (.t 13)), (91, 7, (.t 14)), (98, 7, (.t 15)), (105, 7, (.t 16)), (112, 7, (.t 17)), (119, 7, (.t 18)), (126, 7, (.t 19)), (133, 7, (.t 20)), (140, 7, (.t 21)), (147, 7, (.t 22)), (154, 7, (.t 23)), (161, 7, (.t 24)), (168, 7, (.t 25)), (175, 7, (.t 26)), (182, 7, (.t 27)), (189, 7, (.t 28)), (196, 7, (.t 29)), (203, 7, (.t 30)), (210, 7, (.t 31)), (217, 7, (.t 32)), (224, 7, (.t 33)), (231, 7, (.t 34)), (238, 7, (.t 35)), (245, 7, (.t 36)), (252, 7, (.t 37)), (259, 7, (.t 38)), (266, 7, (.t 39)), (273, 7, (.t 40)), (280, 7, (.t 41)), (287, 7, (.t 42)), (294, 7, (.t 43)), (301, 7, (.t 44)), (308, 7, (.t 45)), (315, 7, (.t 46)), (322, 7, (.t 47)), (329, 7, (.t 48)), (336, 7, (.t 49)), (343, 7, (.t 50)), (350, 7, (.t 51)), (357, 7, (.t 52)), (364, 7, (.t 53)), (371, 7, (.t 54)), (378, 7, (.t 55)), (385, 7, (.t 56)), (392, 7, (.t 57)), (399, 7, (.t 58)), (406, 7, (.t 59)), (413, 7, (.t 60)), (420, 7, (.t 61)), (427, 7, (.t 62)), (434, 7, (.t 63)), (441, 7, (.t 64)), (448, 7, (.t 65)), (455, 7, (.t 66)), (462, 7, (.t 67)), (469, 7, (.t 68)), (476, 7, (.t 69))]), none⟩, ⟨(some 0), (.p (.mv (.t 70))), none⟩])
 .ret))⟩
/- (corral/isa.row).fits -/
def af14 : AFunc := ⟨121, [.t 4],
 (.seq (.reg [⟨(some 2), (.box 7 (.t 0)), none⟩, ⟨(some 4), (.p (.mv (.c (.bool (.lit false))))), none⟩])
 (.seq (.reg [⟨(some 6), (.p (.mv (.t 1))), none⟩, ⟨(some 7), (.call (.f 31) [(.t 6)]), none⟩, ⟨(some 5), (.newC [(.int .u32 (.lit 0)), (.int .u32 (.lit 0)), (.int .u32 (.lit 0)), (.int .u32 (.lit 0)), (.int .u32 (.lit 0)), (.int .u32 (.lit 0))]), none⟩, ⟨none, (.store 6 (.t 5) (.t 7)), none⟩])
 (.seq (.seq (.reg [⟨(some 8), (.p (.fieldAddr 2 (.t 2))), none⟩, ⟨(some 9), (.load false 1 (.t 8)), none⟩, ⟨(some 10), (.p (.bin 0 .eql (.t 9) (.c (.int .i64 (.lit 8))))), none⟩])
 (.cond (.t 10) (.seq (.reg [⟨(some 11), (.p (.mv (.t 1))), none⟩, ⟨(some 12), (.p (.fieldAddr 3 (.t 2))), none⟩, ⟨(some 13), (.load false 1 (.t 12)), none⟩, ⟨(some 14), (.p (.bin 0 .eql (.t 11) (.t 13))), none⟩, ⟨(some 4), (.p (.mv (.t 14))), none⟩])
 .ret)
 .skip))
 (.seq (.seq (.reg [⟨(some 15), (.p (.fieldAddr 0 (.t 5))), none⟩, ⟨(some 16), (.load false 1 (.t 15)), none⟩, ⟨(some 17), (.p (.fieldAddr 3 (.t 2))), none⟩, ⟨(some 18), (.load false 1 (.t 17)), none⟩, ⟨(some 19), (.p (.bin 0 .neq (.t 16) (.t 18))), none⟩])
 (.cond (.t 19) (.seq (.reg [⟨(some 4), (.p (.mv (.c (.bool (.lit false))))), none⟩])
 .ret)
 .skip))
 (.seq (.seq (.reg [⟨(some 20), (.p (.fieldAddr 2 (.t 2))), none⟩, ⟨(some 21), (.load false 1 (.t 20)), none⟩])
 (.block 0 (.seq (.seq (.reg [⟨(some 23), (.p (.bin 0 .eql (.t 21) (.c (.int .i64 (.lit 0))))), none⟩, ⟨(some 22), (.p (.mv (.t 23))), none⟩])
 (.cond (.t 22) .skip
 (.reg [⟨(some 24), (.p (.bin 0 .eql (.t 21) (.c (.int .i64 (.lit 1))))), none⟩, ⟨(some 22), (.p (.mv (.t 24))), none⟩])))
 (.cond (.t 22) (.seq (.reg [⟨(some 4), (.p (.mv (.c (.bool (.lit true))))), none⟩])
 .ret)
 (.seq (.seq (.reg [⟨(some 26), (.p (.bin 0 .eql (.t 21) (.c (.int .i64 (.lit 5))))), none⟩, ⟨(some 25), (.p (.mv (.t 26))), none⟩])
 (.cond (.t 25) .skip
 (.reg [⟨(some 27), (.p (.bin 0 .eql (.t 21) (.c (.int .i64 (.lit 6))))), none⟩, ⟨(some 25), (.p (.mv (.t 27))), none⟩])))
 (.cond (.t 25) (.seq (.reg [⟨(some 28), (.p (.fieldAddr 2 (.t 5))), none⟩, ⟨(some 29), (.load false 1 (.t 28)), none⟩, ⟨(some 30), (.p (.fieldAddr 4 (.t 2))), none⟩, ⟨(some 31), (.load false 1 (.t 30)), none⟩, ⟨(some 32), (.p (.bin 0 .eql (.t 29) (.t 31))), none⟩, ⟨(some 33), (.p (.mv (.t 32))), none⟩, ⟨(some 34), (.p (.fieldAddr 5 (.t 5))), (some (33, true))⟩, ⟨(some 35), (.load false 1 (.t 34)), (some (33, true))⟩, ⟨(some 36), (.p (.fieldAddr 5 (.t 2))), (some (33, true))⟩, ⟨(some 37), (.load false 1 (.t 36)), (some (33, true))⟩, ⟨(some 38), (.p (.bin 0 .eql (.t 35) (.t 37))), (some (33, true))⟩, ⟨(some 39), (.pick (.t 33) (.t 38) (.c (.bool (.lit false)))), none⟩, ⟨(some 4), (.p (.mv (.t 39))), none⟩])
 .ret)
 (.seq (.reg [⟨(some 41), (.p (.bin 0 .eql (.t 21) (.c (.int .i64 (.lit 7))))), none⟩, ⟨(some 40), (.p (.mv (.t 41))), none⟩])
 (.cond (.t 40) (.seq (.reg [⟨(some 42), (.p (.fieldAddr 2 (.t 5))), none⟩, ⟨(some 43), (.load false 1 (.t 42)), none⟩, ⟨(some 44), (.p (.fieldAddr 4 (.t 2))), none⟩, ⟨(some 45), (.load false 1 (.t 44)), none⟩, ⟨(some 46), (.p (.bin 0 .eql (.t 43) (.t 45))), none⟩, ⟨(some 47), (.p (.mv (.t 46))), none⟩, ⟨(some 48), (.p (.fieldAddr 1 (.t 5))), (some (47, true))⟩, ⟨(some 49), (.load false 1 (.t 48)), (some (47, true))⟩, ⟨(some 50), (.p (.bin 0 .eql (.t 49) (.c (.int .u32 (.lit 0))))), (some (47, true))⟩, ⟨(some 51), (.pick (.t 47) (.t 50) (.c (.bool (.lit false)))), none⟩, ⟨(some 52), (.p (.mv (.t 51))), none⟩, ⟨(some 53), (.p (.fieldAddr 3 (.t 5))), (some (52, true))⟩, ⟨(some 54), (.load false 1 (.t 53)), (some (52, true))⟩, ⟨(some 55), (.p (.bin 0 .eql (.t 54) (.c (.int .u32 (.lit 0))))), (some (52, true))⟩, ⟨(some 56), (.pick (.t 52) (.t 55) (.c (.bool (.lit false)))), none⟩, ⟨(some 57), (.p (.mv (.t 56))), none⟩, ⟨(some 58), (.p (.mv (.t 1))), (some (57, true))⟩, ⟨(some 59), (.call (.f 30) [(.t 58), (.c (.int .i64 (.lit 28))), (.c (.int .i64 (.lit 4)))]), (some (57, true))⟩, ⟨(some 60), (.p (.bin 0 .eql (.t 59) (.c (.int .u32 (.lit 0))))), (some (57, true))⟩, ⟨(some 61), (.pick (.t 57) (.t 60) (.c (.bool (.lit false)))), none⟩, ⟨(some 4), (.p (.mv (.t 61))), none⟩])
 .ret)
 (.seq (.reg [⟨(some 63), (.p (.bin 0 .eql (.t 21) (.c (.int .i64 (.lit 9))))), none⟩, ⟨(some 62), (.p (.mv (.t 63))), none⟩])
 (.cond (.t 62) (.seq (.reg [⟨(some 64), (.p (.fieldAddr 2 (.t 5))), none⟩, ⟨(some 65), (.load false 1 (.t 64)), none⟩, ⟨(some 66), (.p (.fieldAddr 4 (.t 2))), none⟩, ⟨(some 67), (.load false 1 (.t 66)), none⟩, ⟨(some 68), (.p (.bin 0 .eql (.t 65) (.t 67))), none⟩, ⟨(some 69), (.p (.mv (.t 68))), none⟩, ⟨(some 70), (.p (.fieldAddr 5 (.t 5))), (some (69, true))⟩, ⟨(some 71), (.load false 1 (.t 70)), (some (69, true))⟩, ⟨(some 72), (.p (.fieldAddr 5 (.t 2))), (some (69, true))⟩, ⟨(some 73), (.load false 1 (.t 72)), (some (69, true))⟩, ⟨(some 74), (.p (.bin 0 .eql (.t 71) (.t 73))), (some (69, true))⟩, ⟨(some 75), (.pick (.t 69) (.t 74) (.c (.bool (.lit false)))), none⟩, ⟨(some 76), (.p (.mv (.t 75))), none⟩, ⟨(some 77), (.p (.fieldAddr 1 (.t 5))), (some (76, true))⟩, ⟨(some 78), (.load false 1 (.t 77)), (some (76, true))⟩, ⟨(some 79), (.p (.bin 0 .eql (.t 78) (.c (.int .u32 (.lit 0))))), (some (76, true))⟩, ⟨(some 80), (.pick (.t 76) (.t 79) (.c (.bool (.lit false)))), none⟩, ⟨(some 4), (.p (.mv (.t 80))), none⟩])
 .ret)
 (.seq (.reg [⟨(some 82), (.p (.bin 0 .eql (.t 21) (.c (.int .i64 (.lit 12))))), none⟩, ⟨(some 81), (.p (.mv (.t 82))), none⟩])
 (.cond (.t 81) (.seq (.reg [⟨(some 83), (.p (.fieldAddr 2 (.t 5))), none⟩, ⟨(some 84), (.load false 1 (.t 83)), none⟩, ⟨(some 85), (.p (.fieldAddr 4 (.t 2))), none⟩, ⟨(some 86), (.load false 1 (.t 85)), none⟩, ⟨(some 87), (.p (.bin 0 .eql (.t 84) (.t 86))), none⟩, ⟨(some 88), (.p (.mv (.t 87))), none⟩, ⟨(some 89), (.p (.fieldAddr 5 (.t 5))), (some (88, true))⟩, ⟨(some 90), (.load false 1 (.t 89)), (some (88, true))⟩, ⟨(some 91), (.p (.bin 0 .shr (.t 90) (.c (.int .u64 (.lit 2))))), (some (88, true))⟩, ⟨(some 92), (.p (.fieldAddr 5 (.t 2))), (some (88, true))⟩, ⟨(some 93), (.load false 1 (.t 92)), (some (88, true))⟩, ⟨(some 94), (.p (.bin 0 .eql (.t 91) (.t 93))), (some (88, true))⟩, ⟨(some 95), (.pick (.t 88) (.t 94) (.c (.bool (.lit false)))), none⟩, ⟨(some 96), (.p (.mv (.t 95))), none⟩, ⟨(some 97), (.p (.fieldAddr 4 (.t 5))), (some (96, true))⟩, ⟨(some 98), (.load false 1 (.t 97)), (some (96, true))⟩, ⟨(some 99), (.p (.bin 0 .eql (.t 98) (.c (.int .u32 (.lit 0))))), (some (96, true))⟩, ⟨(some 100), (.pick (.t 96) (.t 99) (.c (.bool (.lit false)))), none⟩, ⟨(some 4), (.p (.mv (.t 100))), none⟩])
 .ret)
 (.seq (.reg [⟨(some 102), (.p (.bin 0 .eql (.t 21) (.c (.int .i64 (.lit 13))))), none⟩, ⟨(some 101), (.p (.mv (.t 102))), none⟩])
 (.cond (.t 101) (.seq (.reg [⟨(some 103), (.p (.fieldAddr 2 (.t 5))), none⟩, ⟨(some 104), (.load false 1 (.t 103)), none⟩, ⟨(some 105), (.p (.fieldAddr 4 (.t 2))), none⟩, ⟨(some 106), (.load false 1 (.t 105)), none⟩, ⟨(some 107), (.p (.bin 0 .eql (.t 104) (.t 106))), none⟩, ⟨(some 108), (.p (.mv (.t 107))), none⟩, ⟨(some 109), (.p (.fieldAddr 5 (.t 5))), (some (108, true))⟩, ⟨(some 110), (.load false 1 (.t 109)), (some (108, true))⟩, ⟨(some 111), (.p (.bin 0 .shr (.t 110) (.c (.int .u64 (.lit 2))))), (some (108, true))⟩, ⟨(some 112), (.p (.fieldAddr 5 (.t 2))), (some (108, true))⟩, ⟨(some 113), (.load false 1 (.t 112)), (some (108, true))⟩, ⟨(some 114), (.p (.bin 0 .eql (.t 111) (.t 113))), (some (108, true))⟩, ⟨(some 115), (.pick (.t 108) (.t 114) (.c (.bool (.lit false)))), none⟩, ⟨(some 4), (.p (.mv (.t 115))), none⟩])
 .ret)
 .skip))))))))))))))
 (.seq (.reg [⟨(some 116), (.p (.fieldAddr 2 (.t 5))), none⟩, ⟨(some 117), (.load false 1 (.t 116)), none⟩, ⟨(some 118), (.p (.fieldAddr 4 (.t 2))), none⟩, ⟨(some 119), (.load false 1 (.t 118)), none⟩, ⟨(some 120), (.p (.bin 0 .eql (.t 117) (.t 119))), none⟩, ⟨(some 4), (.p (.mv (.t 120))), none⟩])
 .ret))))))⟩
/- (corral/isa.row).decode -/
def af15 : AFunc := ⟨64, [.cell 4 true 8],
 (.seq (.reg [⟨(some 2), (.box 7 (.t 0)), none⟩, ⟨(some 4), (.newC [(.int .i64 (.lit 0)), (.int .i64 (.lit 0)), (.int .i64 (.lit 0)), (.int .i64 (.lit 0)), (.int .i64 (.lit 0)), (.int .u32 (.lit 0)), (.bool (.lit false)), (.bool (.lit false))]), none⟩])
 (.seq (.reg [⟨(some 11), (.p (.mv (.t 1))), none⟩, ⟨(some 12), (.call (.f 31) [(.t 11)]), none⟩, ⟨(some 5), (.newC [(.int .u32 (.lit 0)), (.int .u32 (.lit 0)), (.int .u32 (.lit 0)), (.int .u32 (.lit 0)), (.int .u32 (.lit 0)), (.int .u32 (.lit 0))]), none⟩, ⟨none, (.store 6 (.t 5) (.t 12)), none⟩])
 (.seq (.reg [⟨(some 13), (.p (.fieldAddr 0 (.t 2))), none⟩, ⟨(some 14), (.load false 1 (.t 13)), none⟩, ⟨(some 15), (.p (.build [(.int .i64 (.lit 0)), (.int .i64 (.lit 0)), (.int .i64 (.lit 0)), (.int .i64 (.lit 0)), (.int .i64 (.lit 0)), (.int .u32 (.lit 0)), (.bool (.lit false)), (.bool (.lit false))] [(0, 1, (.t 14))])), none⟩, ⟨(some 6), (.newC [(.int .i64 (.lit 0)), (.int .i64 (.lit 0)), (.int .i64 (.lit 0)), (.int .i64 (.lit 0)), (.int .i64 (.lit 0)), (.int .u32 (.lit 0)), (.bool (.lit false)), (.bool (.lit false))]), none⟩, ⟨none, (.store 8 (.t 6) (.t 15)), none⟩])
 (.seq (.reg [⟨(some 17), (.load true 7 (.t 2)), none⟩, ⟨(some 18), (.call (.f 32) [(.t 17)]), none⟩, ⟨(some 16), (.p (.mv (.t 18))), none⟩, ⟨(some 19), (.p (.extract 0 (.t 16))), none⟩, ⟨(some 20), (.p (.extract 1 (.t 16))), none⟩, ⟨(some 21), (.p (.extract 2 (.t 16))), none⟩, ⟨(some 22), (.p (.extract 3 (.t 16))), none⟩, ⟨(some 7), (.p (.mv (.t 19))), none⟩, ⟨(some 8), (.p (.mv (.t 20))), none⟩, ⟨(some 9), (.p (.mv (.t 21))), none⟩, ⟨(some 10), (.p (.mv (.t 22))), none⟩])
 (.seq (.seq (.reg [⟨(some 23), (.p (.mv (.t 7))), none⟩])
 (.cond (.t 23) (.reg [⟨(some 24), (.p (.fieldAddr 1 (.t 5))), none⟩, ⟨(some 25), (.load false 1 (.t 24)), none⟩, ⟨(some 26), (.p (.conv .i64 (.t 25))), none⟩, ⟨(some 27), (.p (.fieldAddr 1 (.t 6))), none⟩, ⟨none, (.store 1 (.t 27) (.t 26)), none⟩])
 .skip))
 (.seq (.seq (.reg [⟨(some 28), (.p (.mv (.t 8))), none⟩])
 (.cond (.t 28) (.reg [⟨(some 29), (.p (.fieldAddr 3 (.t 5))), none⟩, ⟨(some 30), (.load false 1 (.t 29)), none⟩, ⟨(some 31), (.p (.conv .i64 (.t 30))), none⟩, ⟨(some 32), (.p (.fieldAddr 2 (.t 6))), none⟩, ⟨none, (.store 1 (.t 32) (.t 31)), none⟩])
 .skip))
 (.seq (.seq (.reg [⟨(some 33), (.p (.mv (.t 9))), none⟩])
 (.cond (.t 33) (.reg [⟨(some 34), (.p (.fieldAddr 4 (.t 5))), none⟩, ⟨(some 35), (.load false 1 (.t 34)), none⟩, ⟨(some 36), (.p (.conv .i64 (.t 35))), none⟩, ⟨(some 37), (.p (.fieldAddr 3 (.t 6))), none⟩, ⟨none, (.store 1 (.t 37) (.t 36)), none⟩])
 .skip))
 (.seq (.seq (.reg [⟨(some 38), (.p (.mv (.t 10))), none⟩])
 (.cond (.t 38) (.reg [⟨(some 39), (.load true 7 (.t 2)), none⟩, ⟨(some 40), (.p (.mv (.t 1))), none⟩, ⟨(some 41), (.call (.f 33) [(.t 39), (.t 40)]), none⟩, ⟨(some 42), (.p (.fieldAddr 5 (.t 6))), none⟩, ⟨none, (.store 1 (.t 42) (.t 41)), none⟩])
 .skip))
 (.seq (.seq (.reg [⟨(some 43), (.p (.fieldAddr 2 (.t 2))), none⟩, ⟨(some 44), (.load false 1 (.t 43)), none⟩])
 (.block 0 (.seq (.seq (.reg [⟨(some 46), (.p (.bin 0 .eql (.t 44) (.c (.int .i64 (.lit 10))))), none⟩, ⟨(some 45), (.p (.mv (.t 46))), none⟩])
 (.cond (.t 45) .skip
 (.reg [⟨(some 47), (.p (.bin 0 .eql (.t 44) (.c (.int .i64 (.lit 11))))), none⟩, ⟨(some 45), (.p (.mv (.t 47))), none⟩])))
 (.cond (.t 45) (.reg [⟨(some 48), (.p (.mv (.t 1))), none⟩, ⟨(some 49), (.call (.f 30) [(.t 48), (.c (.int .i64 (.lit 20))), (.c (.int .i64 (.lit 12)))]), none⟩, ⟨(some 50), (.p (.conv .i64 (.t 49))), none⟩, ⟨(some 51), (.p (.fieldAddr 4 (.t 6))), none⟩, ⟨none, (.store 1 (.t 51) (.t 50)), none⟩])
 (.seq (.seq (.reg [⟨(some 53), (.p (.bin 0 .eql (.t 44) (.c (.int .i64 (.lit 12))))), none⟩, ⟨(some 52), (.p (.mv (.t 53))), none⟩])
 (.cond (.t 52) .skip
 (.reg [⟨(some 54), (.p (.bin 0 .eql (.t 44) (.c (.int .i64 (.lit 13))))), none⟩, ⟨(some 52), (.p (.mv (.t 54))), none⟩])))
 (.cond (.t 52) (.reg [⟨(some 55), (.p (.mv (.t 1))), none⟩, ⟨(some 56), (.call (.f 30) [(.t 55), (.c (.int .i64 (.lit 26))), (.c (.int .i64 (.lit 1)))]), none⟩, ⟨(some 57), (.p (.bin 0 .eql (.t 56) (.c (.int .u32 (.lit 1))))), none⟩, ⟨(some 58), (.p (.mv (.t 1))), none⟩, ⟨(some 59), (.call (.f 30) [(.t 58), (.c (.int .i64 (.lit 25))), (.c (.int .i64 (.lit 1)))]), none⟩, ⟨(some 60), (.p (.bin 0 .eql (.t 59) (.c (.int .u32 (.lit 1))))), none⟩, ⟨(some 61), (.p (.fieldAddr 6 (.t 6))), none⟩, ⟨none, (.store 1 (.t 61) (.t 57)), none⟩, ⟨(some 62), (.p (.fieldAddr 7 (.t 6))), none⟩, ⟨none, (.store 1 (.t 62) (.t 60)), none⟩])
 .skip))))))
 (.seq (.reg [⟨(some 63), (.load true 8 (.t 6)), none⟩, ⟨none, (.store 8 (.t 4) (.t 63)), none⟩])
 .ret))))))))))⟩
/- corral/corralref1.Do -/
def af16 : AFunc := ⟨108, [.t 6, .t 7],
 (.seq (.reg [⟨(some 6), (.p (.mv (.c (.int .u32 (.lit 0))))), none⟩, ⟨(some 7), (.p (.mv (.c (.bool (.lit false))))), none⟩])
 (.seq (.seq (.reg [⟨(some 8), (.p (.mv (.t 0))), none⟩, ⟨(some 9), (.call (.f 34) [(.t 8)]), none⟩])
 (.block 0 (.seq (.reg [⟨(some 11), (.p (.bin 0 .eql (.t 9) (.c (.int .i64 (.lit 28))))), none⟩, ⟨(some 10), (.p (.mv (.t 11))), none⟩])
 (.cond (.t 10) (.seq (.reg [⟨(some 12), (.p (.mv (.t 1))), none⟩, ⟨(some 13), (.p (.mv (.t 2))), none⟩, ⟨(some 14), (.p (.bin 0 .add (.t 12) (.t 13))), none⟩, ⟨(some 6), (.p (.mv (.t 14))), none⟩, ⟨(some 7), (.p (.mv (.c (.bool (.lit true))))), none⟩])
 .ret)
 (.seq (.reg [⟨(some 16), (.p (.bin 0 .eql (.t 9) (.c (.int .i64 (.lit 29))))), none⟩, ⟨(some 15), (.p (.mv (.t 16))), none⟩])
 (.cond (.t 15) (.seq (.reg [⟨(some 17), (.p (.mv (.t 1))), none⟩, ⟨(some 18), (.p (.mv (.t 2))), none⟩, ⟨(some 19), (.p (.bin 0 .sub (.t 17) (.t 18))), none⟩, ⟨(some 6), (.p (.mv (.t 19))), none⟩, ⟨(some 7), (.p (.mv (.c (.bool (.lit true))))), none⟩])
 .ret)
 (.seq (.reg [⟨(some 21), (.p (.bin 0 .eql (.t 9) (.c (.int .i64 (.lit 30))))), none⟩, ⟨(some 20), (.p (.mv (.t 21))), none⟩])
 (.cond (.t 20) (.seq (.reg [⟨(some 22), (.p (.mv (.t 1))), none⟩, ⟨(some 23), (.p (.mv (.t 2))), none⟩, ⟨(some 24), (.p (.bin 0 .and (.t 23) (.c (.int .u32 (.lit 31))))), none⟩, ⟨(some 25), (.p (.conv .u64 (.t 24))), none⟩, ⟨(some 26), (.p (.bin 0 .shl (.t 22) (.t 25))), none⟩, ⟨(some 6), (.p (.mv (.t 26))), none⟩, ⟨(some 7), (.p (.mv (.c (.bool (.lit true))))), none⟩])
 .ret)
 (.seq (.reg [⟨(some 28), (.p (.bin 0 .eql (.t 9) (.c (.int .i64 (.lit 31))))), none⟩, ⟨(some 27), (.p (.mv (.t 28))), none⟩])
 (.cond (.t 27) (.seq (.reg [⟨(some 29), (.p (.mv (.t 1))), none⟩, ⟨(some 30), (.p (.mv (.t 2))), none⟩, ⟨(some 31), (.call (.f 36) [(.t 29), (.t 30), (.c (.bool (.lit true)))]), none⟩, ⟨(some 32), (.call (.f 35) [(.t 31)]), none⟩, ⟨(some 6), (.p (.mv (.t 32))), none⟩, ⟨(some 7), (.p (.mv (.c (.bool (.lit true))))), none⟩])
 .ret)
 (.seq (.reg [⟨(some 34), (.p (.bin 0 .eql (.t 9) (.c (.int .i64 (.lit 32))))), none⟩, ⟨(some 33), (.p (.mv (.t 34))), none⟩])
 (.cond (.t 33) (.seq (.reg [⟨(some 35), (.p (.mv (.t 1))), none⟩, ⟨(some 36), (.p (.mv (.t 2))), none⟩, ⟨(some 37), (.p (.bin 0 .lss (.t 35) (.t 36))), none⟩, ⟨(some 38), (.call (.f 35) [(.t 37)]), none⟩, ⟨(some 6), (.p (.mv (.t 38))), none⟩, ⟨(some 7), (.p (.mv (.c (.bool (.lit true))))), none⟩])
 .ret)
 (.seq (.reg [⟨(some 40), (.p (.bin 0 .eql (.t 9) (.c (.int .i64 (.lit 33))))), none⟩, ⟨(some 39), (.p (.mv (.t 40))), none⟩])
 (.cond (.t 39) (.seq (.reg [⟨(some 41), (.p (.mv (.t 1))), none⟩, ⟨(some 42), (.p (.mv (.t 2))), none⟩, ⟨(some 43), (.p (.bin 0 .xor (.t 41) (.t 42))), none⟩, ⟨(some 6), (.p (.mv (.t 43))), none⟩, ⟨(some 7), (.p (.mv (.c (.bool (.lit true))))), none⟩])
 .ret)
 (.seq (.reg [⟨(some 45), (.p (.bin 0 .eql (.t 9) (.c (.int .i64 (.lit 34))))), none⟩, ⟨(some 44), (.p (.mv (.t 45))), none⟩])
 (.cond (.t 44) (.seq (.reg [⟨(some 46), (.p (.mv (.t 1))), none⟩, ⟨(some 47), (.p (.mv (.t 2))), none⟩, ⟨(some 48), (.p (.bin 0 .and (.t 47) (.c (.int .u32 (.lit 31))))), none⟩, ⟨(some 49), (.p (.conv .u64 (.t 48))), none⟩, ⟨(some 50), (.p (.bin 0 .shr (.t 46) (.t 49))), none⟩, ⟨(some 6), (.p (.mv (.t 50))), none⟩, ⟨(some 7), (.p (.mv (.c (.bool (.lit true))))), none⟩])
 .ret)
 (.seq (.reg [⟨(some 52), (.p (.bin 0 .eql (.t 9) (.c (.int .i64 (.lit 35))))), none⟩, ⟨(some 51), (.p (.mv (.t 52))), none⟩])
 (.cond (.t 51) (.seq (.reg [⟨(some 53), (.p (.mv (.t 1))), none⟩, ⟨(some 54), (.p (.mv (.t 2))), none⟩, ⟨(some 55), (.p (.bin 0 .and (.t 54) (.c (.int .u32 (.lit 31))))), none⟩, ⟨(some 56), (.p (.conv .i64 (.t 55))), none⟩, ⟨(some 57), (.call (.f 37) [(.t 53), (.t 56), (.c (.bool (.lit true)))]), none⟩, ⟨(some 6), (.p (.mv (.t 57))), none⟩, ⟨(some 7), (.p (.mv (.c (.bool (.lit true))))), none⟩])
 .ret)
 (.seq (.reg [⟨(some 59), (.p (.bin 0 .eql (.t 9) (.c (.int .i64 (.lit 36))))), none⟩, ⟨(some 58), (.p (.mv (.t 59))), none⟩])
 (.cond (.t 58) (.seq (.reg [⟨(some 60), (.p (.mv (.t 1))), none⟩, ⟨(some 61), (.p (.mv (.t 2))), none⟩, ⟨(some 62), (.p (.bin 0 .or (.t 60) (.t 61))), none⟩, ⟨(some 6), (.p (.mv (.t 62))), none⟩, ⟨(some 7), (.p (.mv (.c (.bool (.lit true))))), none⟩])
 .ret)
 (.seq (.reg [⟨(some 64), (.p (.bin 0 .eql (.t 9) (.c (.int .i64 (.lit 37))))), none⟩, ⟨(some 63), (.p (.mv (.t 64))), none⟩])
 (.cond (.t 63) (.seq (.reg [⟨(some 65), (.p (.mv (.t 1))), none⟩, ⟨(some 66), (.p (.mv (.t 2))), none⟩, ⟨(some 67), (.p (.bin 0 .and (.t 65) (.t 66))), none⟩, ⟨(some 6), (.p (.mv (.t 67))), none⟩, ⟨(some 7), (.p (.mv (.c (.bool (.lit true))))), none⟩])
 .ret)
 (.seq (.reg [⟨(some 69), (.p (.bin 0 .eql (.t 9) (.c (.int .i64 (.lit 51))))), none⟩, ⟨(some 68), (.p (.mv (.t 69))), none⟩])
 (.cond (.t 68) (.seq (.reg [⟨(some 70), (.p (.mv (.t 1))), none⟩, ⟨(some 71), (.p (.mv (.t 2))), none⟩, ⟨(some 72), (.p (.bin 0 .mul (.t 70) (.t 71))), none⟩, ⟨(some 6), (.p (.mv (.t 72))), none⟩, ⟨(some 7), (.p (.mv (.c (.bool (.lit true))))), none⟩])
 .ret)
 (.seq (.reg [⟨(some 74), (.p (.bin 0 .eql (.t 9) (.c (.int .i64 (.lit 52))))), none⟩, ⟨(some 73), (.p (.mv (.t 74))), none⟩])
 (.cond (.t 73) (.seq (.reg [⟨(some 75), (.p (.mv (.t 1))), none⟩, ⟨(some 76), (.p (.mv (.t 2))), none⟩, ⟨(some 77), (.call (.f 38) [(.t 75), (.t 76), (.c (.bool (.lit true))), (.c (.bool (.lit true)))]), none⟩, ⟨(some 6), (.p (.mv (.t 77))), none⟩, ⟨(some 7), (.p (.mv (.c (.bool (.lit true))))), none⟩])
 .ret)
 (.seq (.reg [⟨(some 79), (.p (.bin 0 .eql (.t 9) (.c (.int .i64 (.lit 53))))), none⟩, ⟨(some 78), (.p (.mv (.t 79))), none⟩])
 (.cond (.t 78) (.seq (.reg [⟨(some 80), (.p (.mv (.t 1))), none⟩, ⟨(some 81), (.p (.mv (.t 2))), none⟩, ⟨(some 82), (.call (.f 38) [(.t 80), (.t 81), (.c (.bool (.lit true))), (.c (.bool (.lit false)))]), none⟩, ⟨(some 6), (.p (.mv (.t 82))), none⟩, ⟨(some 7), (.p (.mv (.c (.bool (.lit true))))), none⟩])
 .ret)
 (.seq (.reg [⟨(some 84), (.p (.bin 0 .eql (.t 9) (.c (.int .i64 (.lit 54))))), none⟩, ⟨(some 83), (.p (.mv (.t 84))), none⟩])
 (.cond (.t 83) (.seq (.reg [⟨(some 85), (.p (.mv (.t 1))), none⟩, ⟨(some 86), (.p (.mv (.t 2))), none⟩, ⟨(some 87), (.call (.f 38) [(.t 85), (.t 86), (.c (.bool (.lit false))), (.c (.bool (.lit false)))]), none⟩, ⟨(some 6), (.p (.mv (.t 87))), none⟩, ⟨(some 7), (.p (.mv (.c (.bool (.lit true))))), none⟩])
 .ret)
 (.seq (.reg [⟨(some 89), (.p (.bin 0 .eql (.t 9) (.c (.int .i64 (.lit 55))))), none⟩, ⟨(some 88), (.p (.mv (.t 89))), none⟩])
 (.cond (.t 88) (.seq (.reg [⟨(some 90), (.p (.mv (.t 1))), none⟩, ⟨(some 91), (.p (.mv (.t 2))), none⟩, ⟨(some 92), (.call (.f 39) [(.t 90), (.t 91), (.c (.bool (.lit true)))]), none⟩, ⟨(some 6), (.p (.mv (.t 92))), none⟩, ⟨(some 7), (.p (.mv (.c (.bool (.lit true))))), none⟩])
 .ret)
 (.seq (.reg [⟨(some 94), (.p (.bin 0 .eql (.t 9) (.c (.int .i64 (.lit 56))))), none⟩, ⟨(some 93), (.p (.mv (.t 94))), none⟩])
 (.cond (.t 93) (.seq (.reg [⟨(some 95), (.p (.mv (.t 1))), none⟩, ⟨(some 96), (.p (.mv (.t 2))), none⟩, ⟨(some 97), (.call (.f 39) [(.t 95), (.t 96), (.c (.bool (.lit false)))]), none⟩, ⟨(some 6), (.p (.mv (.t 97))), none⟩, ⟨(some 7), (.p (.mv (.c (.bool (.lit true))))), none⟩])
 .ret)
 (.seq (.reg [⟨(some 99), (.p (.bin 0 .eql (.t 9) (.c (.int .i64 (.lit 57))))), none⟩, ⟨(some 98), (.p (.mv (.t 99))), none⟩])
 (.cond (.t 98) (.seq (.reg [⟨(some 100), (.p (.mv (.t 1))), none⟩, ⟨(some 101), (.p (.mv (.t 2))), none⟩, ⟨(some 102), (.call (.f 40) [(.t 100), (.t 101), (.c (.bool (.lit true)))]), none⟩, ⟨(some 6), (.p (.mv (.t 102))), none⟩, ⟨(some 7), (.p (.mv (.c (.bool (.lit true))))), none⟩])
 .ret)
 (.seq (.reg [⟨(some 104), (.p (.bin 0 .eql (.t 9) (.c (.int .i64 (.lit 58))))), none⟩, ⟨(some 103), (.p (.mv (.t 104))), none⟩])
 (.cond (.t 103) (.seq (.reg [⟨(some 105), (.p (.mv (.t 1))), none⟩, ⟨(some 106), (.p (.mv (.t 2))), none⟩, ⟨(some 107), (.call (.f 40) [(.t 105), (.t 106), (.c (.bool (.lit false)))]), none⟩, ⟨(some 6), (.p (.mv (.t 107))), none⟩, ⟨(some 7), (.p (.mv (.c (.bool (.lit true))))), none⟩])
 .ret)
 .skip))))))))))))))))))))))))))))))))))))))
 (.seq (.reg [⟨(some 6), (.p (.mv (.c (.int .u32 (.lit 0))))), none⟩, ⟨(some 7), (.p (.mv (.c (.bool (.lit false))))), none⟩])
 .ret)))⟩
/- corral/alu.Taken -/
def af17 : AFunc := ⟨36, [.t 6, .t 7],
 (.seq (.reg [⟨(some 6), (.p (.mv (.c (.bool (.lit false))))), none⟩, ⟨(some 7), (.p (.mv (.c (.bool (.lit false))))), none⟩])
 (.seq (.seq (.reg [⟨(some 8), (.p (.mv (.t 0))), none⟩])
 (.block 0 (.seq (.reg [⟨(some 10), (.p (.bin 0 .eql (.t 8) (.c (.int .i64 (.lit 5))))), none⟩, ⟨(some 9), (.p (.mv (.t 10))), none⟩])
 (.cond (.t 9) (.seq (.reg [⟨(some 11), (.p (.mv (.t 1))), none⟩, ⟨(some 12), (.p (.mv (.t 2))), none⟩, ⟨(some 13), (.p (.bin 0 .eql (.t 11) (.t 12))), none⟩, ⟨(some 6), (.p (.mv (.t 13))), none⟩, ⟨(some 7), (.p (.mv (.c (.bool (.lit true))))), none⟩])
 .ret)
 (.seq (.reg [⟨(some 15), (.p (.bin 0 .eql (.t 8) (.c (.int .i64 (.lit 6))))), none⟩, ⟨(some 14), (.p (.mv (.t 15))), none⟩])
 (.cond (.t 14) (.seq (.reg [⟨(some 16), (.p (.mv (.t 1))), none⟩, ⟨(some 17), (.p (.mv (.t 2))), none⟩, ⟨(some 18), (.p (.bin 0 .neq (.t 16) (.t 17))), none⟩, ⟨(some 6), (.p (.mv (.t 18))), none⟩, ⟨(some 7), (.p (.mv (.c (.bool (.lit true))))), none⟩])
 .ret)
 (.seq (.seq (.reg [⟨(some 20), (.p (.bin 0 .eql (.t 8) (.c (.int .i64 (.lit 7))))), none⟩, ⟨(some 19), (.p (.mv (.t 20))), none⟩])
 (.cond (.t 19) .skip
 (.reg [⟨(some 21), (.p (.bin 0 .eql (.t 8) (.c (.int .i64 (.lit 9))))), none⟩, ⟨(some 19), (.p (.mv (.t 21))), none⟩])))
 (.cond (.t 19) (.seq (.reg [⟨(some 22), (.p (.mv (.t 1))), none⟩, ⟨(some 23), (.p (.mv (.t 2))), none⟩, ⟨(some 24), (.p (.mv (.t 0))), none⟩, ⟨(some 25), (.p (.bin 0 .eql (.t 24) (.c (.int .i64 (.lit 7))))), none⟩, ⟨(some 26), (.call (.f 21) [(.t 22), (.t 23), (.t 25)]), none⟩, ⟨(some 6), (.p (.mv (.t 26))), none⟩, ⟨(some 7), (.p (.mv (.c (.bool (.lit true))))), none⟩])
 .ret)
 (.seq (.seq (.reg [⟨(some 28), (.p (.bin 0 .eql (.t 8) (.c (.int .i64 (.lit 8))))), none⟩, ⟨(some 27), (.p (.mv (.t 28))), none⟩])
 (.cond (.t 27) .skip
 (.reg [⟨(some 29), (.p (.bin 0 .eql (.t 8) (.c (.int .i64 (.lit 10))))), none⟩, ⟨(some 27), (.p (.mv (.t 29))), none⟩])))
 (.cond (.t 27) (.seq (.reg [⟨(some 30), (.p (.mv (.t 1))), none⟩, ⟨(some 31), (.p (.mv (.t 2))), none⟩, ⟨(some 32), (.p (.mv (.t 0))), none⟩, ⟨(some 33), (.p (.bin 0 .eql (.t 32) (.c (.int .i64 (.lit 8))))), none⟩, ⟨(some 34), (.call (.f 21) [(.t 30), (.t 31), (.t 33)]), none⟩, ⟨(some 35), (.p (.un .not (.t 34))), none⟩, ⟨(some 6), (.p (.mv (.t 35))), none⟩, ⟨(some 7), (.p (.mv (.c (.bool (.lit true))))), none⟩])
 .ret)
 .skip))))))))))
 (.seq (.reg [⟨(some 6), (.p (.mv (.c (.bool (.lit false))))), none⟩, ⟨(some 7), (.p (.mv (.c (.bool (.lit false))))), none⟩])
 .ret)))⟩
/- corral/corralref1.Taken -/
def af18 : AFunc := ⟨40, [.t 6, .t 7],
 (.seq (.reg [⟨(some 6), (.p (.mv (.c (.bool (.lit false))))), none⟩, ⟨(some 7), (.p (.mv (.c (.bool (.lit false))))), none⟩])
 (.seq (.seq (.reg [⟨(some 8), (.p (.mv (.t 0))), none⟩])
 (.block 0 (.seq (.reg [⟨(some 10), (.p (.bin 0 .eql (.t 8) (.c (.int .i64 (.lit 5))))), none⟩, ⟨(some 9), (.p (.mv (.t 10))), none⟩])
 (.cond (.t 9) (.seq (.reg [⟨(some 11), (.p (.mv (.t 1))), none⟩, ⟨(some 12), (.p (.mv (.t 2))), none⟩, ⟨(some 13), (.p (.bin 0 .eql (.t 11) (.t 12))), none⟩, ⟨(some 6), (.p (.mv (.t 13))), none⟩, ⟨(some 7), (.p (.mv (.c (.bool (.lit true))))), none⟩])
 .ret)
 (.seq (.reg [⟨(some 15), (.p (.bin 0 .eql (.t 8) (.c (.int .i64 (.lit 6))))), none⟩, ⟨(some 14), (.p (.mv (.t 15))), none⟩])
 (.cond (.t 14) (.seq (.reg [⟨(some 16), (.p (.mv (.t 1))), none⟩, ⟨(some 17), (.p (.mv (.t 2))), none⟩, ⟨(some 18), (.p (.bin 0 .neq (.t 16) (.t 17))), none⟩, ⟨(some 6), (.p (.mv (.t 18))), none⟩, ⟨(some 7), (.p (.mv (.c (.bool (.lit true))))), none⟩])
 .ret)
 (.seq (.reg [⟨(some 20), (.p (.bin 0 .eql (.t 8) (.c (.int .i64 (.lit 7))))), none⟩, ⟨(some 19), (.p (.mv (.t 20))), none⟩])
 (.cond (.t 19) (.seq (.reg [⟨(some 21), (.p (.mv (.t 1))), none⟩, ⟨(some 22), (.p (.mv (.t 2))), none⟩, ⟨(some 23), (.call (.f 36) [(.t 21), (.t 22), (.c (.bool (.lit true)))]), none⟩, ⟨(some 6), (.p (.mv (.t 23))), none⟩, ⟨(some 7), (.p (.mv (.c (.bool (.lit true))))), none⟩])
 .ret)
 (.seq (.reg [⟨(some 25), (.p (.bin 0 .eql (.t 8) (.c (.int .i64 (.lit 8))))), none⟩, ⟨(some 24), (.p (.mv (.t 25))), none⟩])
 (.cond (.t 24) (.seq (.reg [⟨(some 26), (.p (.mv (.t 1))), none⟩, ⟨(some 27), (.p (.mv (.t 2))), none⟩, ⟨(some 28), (.call (.f 36) [(.t 26), (.t 27), (.c (.bool (.lit true)))]), none⟩, ⟨(some 29), (.p (.un .not (.t 28))), none⟩, ⟨(some 6), (.p (.mv (.t 29))), none⟩, ⟨(some 7), (.p (.mv (.c (.bool (.lit true))))), none⟩])
 .ret)
 (.seq (.reg [⟨(some 31), (.p (.bin 0 .eql (.t 8) (.c (.int .i64 (.lit 9))))), none⟩, ⟨(some 30), (.p (.mv (.t 31))), none⟩])
 (.cond (.t 30) (.seq (.reg [⟨(some 32), (.p (.mv (.t 1))), none⟩, ⟨(some 33), (.p (.mv (.t 2))), none⟩, ⟨(some 34), (.p (.bin 0 .lss (.t 32) (.t 33))), none⟩, ⟨(some 6), (.p (.mv (.t 34))), none⟩, ⟨(some 7), (.p (.mv (.c (.bool (.lit true))))), none⟩])
 .ret)
 (.seq (.reg [⟨(some 36), (.p (.bin 0 .eql (.t 8) (.c (.int .i64 (.lit 10))))), none⟩, ⟨(some 35), (.p (.mv (.t 36))), none⟩])
 (.cond (.t 35) (.seq (.reg [⟨(some 37), (.p (.mv (.t 1))), none⟩, ⟨(some 38), (.p (.mv (.t 2))), none⟩, ⟨(some 39), (.p (.bin 0 .geq (.t 37) (.t 38))), none⟩, ⟨(some 6), (.p (.mv (.t 39))), none⟩, ⟨(some 7), (.p (.mv (.c (.bool (.lit true))))), none⟩])
 .ret)
 .skip))))))))))))))
 (.seq (.reg [⟨(some 6), (.p (.mv (.c (.bool (.lit false))))), none⟩, ⟨(some 7), (.p (.mv (.c (.bool (.lit false))))), none⟩])
 .ret)))⟩
/- corral/word.Left -/
def af19 : AFunc := ⟨9, [.t 4],
 (.seq (.reg [⟨(some 4), (.p (.mv (.c (.int .u32 (.lit 0))))), none⟩])
 (.seq (.reg [⟨(some 5), (.p (.mv (.t 0))), none⟩, ⟨(some 6), (.p (.mv (.t 1))), none⟩, ⟨(some 7), (.p (.bin 0 .and (.t 6) (.c (.int .i64 (.lit 31))))), none⟩, ⟨(some 8), (.p (.bin 0 .shl (.t 5) (.t 7))), none⟩, ⟨(some 4), (.p (.mv (.t 8))), none⟩])
 .ret))⟩
/- corral/alu.truth -/
def af20 : AFunc := ⟨4, [.t 2],
 (.seq (.reg [⟨(some 2), (.p (.mv (.c (.int .u32 (.lit 0))))), none⟩])
 (.seq (.seq (.reg [⟨(some 3), (.p (.mv (.t 0))), none⟩])
 (.cond (.t 3) (.seq (.reg [⟨(some 2), (.p (.mv (.c (.int .u32 (.lit 1))))), none⟩])
 .ret)
 .skip))
 (.seq (.reg [⟨(some 2), (.p (.mv (.c (.int .u32 (.lit 0))))), none⟩])
 .ret)))⟩
/- corral/word.Less -/
def af21 : AFunc := ⟨16, [.t 6],
 (.seq (.reg [⟨(some 6), (.p (.mv (.c (.bool (.lit false))))), none⟩])
 (.seq (.seq (.reg [⟨(some 7), (.p (.mv (.t 2))), none⟩])
 (.cond (.t 7) (.seq (.reg [⟨(some 8), (.p (.mv (.t 0))), none⟩, ⟨(some 9), (.p (.conv .i32 (.t 8))), none⟩, ⟨(some 10), (.p (.mv (.t 1))), none⟩, ⟨(some 11), (.p (.conv .i32 (.t 10))), none⟩, ⟨(some 12), (.p (.bin 0 .lss (.t 9) (.t 11))), none⟩, ⟨(some 6), (.p (.mv (.t 12))), none⟩])
 .ret)
 .skip))
 (.seq (.reg [⟨(some 13), (.p (.mv (.t 0))), none⟩, ⟨(some 14), (.p (.mv (.t 1))), none⟩, ⟨(some 15), (.p (.bin 0 .lss (.t 13) (.t 14))), none⟩, ⟨(some 6), (.p (.mv (.t 15))), none⟩])
 .ret)))⟩
/- corral/word.Right -/
def af22 : AFunc := ⟨18, [.t 6],
 (.seq (.reg [⟨(some 6), (.p (.mv (.c (.int .u32 (.lit 0))))), none⟩])
 (.seq (.seq (.reg [⟨(some 7), (.p (.mv (.t 2))), none⟩])
 (.cond (.t 7) (.seq (.reg [⟨(some 8), (.p (.mv (.t 0))), none⟩, ⟨(some 9), (.p (.conv .i32 (.t 8))), none⟩, ⟨(some 10), (.p (.mv (.t 1))), none⟩, ⟨(some 11), (.p (.bin 0 .and (.t 10) (.c (.int .i64 (.lit 31))))), none⟩, ⟨(some 12), (.p (.bin 0 .shr (.t 9) (.t 11))), none⟩, ⟨(some 13), (.p (.conv .u32 (.t 12))), none⟩, ⟨(some 6), (.p (.mv (.t 13))), none⟩])
 .ret)
 .skip))
 (.seq (.reg [⟨(some 14), (.p (.mv (.t 0))), none⟩, ⟨(some 15), (.p (.mv (.t 1))), none⟩, ⟨(some 16), (.p (.bin 0 .and (.t 15) (.c (.int .i64 (.lit 31))))), none⟩, ⟨(some 17), (.p (.bin 0 .shr (.t 14) (.t 16))), none⟩, ⟨(some 6), (.p (.mv (.t 17))), none⟩])
 .ret)))⟩
/- corral/word.High -/
def af23 : AFunc := ⟨18, [.t 8],
 (.seq (.reg [⟨(some 8), (.p (.mv (.c (.int .u32 (.lit 0))))), none⟩])
 (.seq (.reg [⟨(some 9), (.p (.mv (.t 0))), none⟩, ⟨(some 10), (.p (.mv (.t 2))), none⟩, ⟨(some 11), (.call (.f 41) [(.t 9), (.t 10)]), none⟩, ⟨(some 12), (.p (.mv (.t 1))), none⟩, ⟨(some 13), (.p (.mv (.t 3))), none⟩, ⟨(some 14), (.call (.f 41) [(.t 12), (.t 13)]), none⟩, ⟨(some 15), (.p (.bin 0 .mul (.t 11) (.t 14))), none⟩, ⟨(some 16), (.p (.bin 0 .shr (.t 15) (.c (.int .u64 (.lit 32))))), none⟩, ⟨(some 17), (.p (.conv .u32 (.t 16))), none⟩, ⟨(some 8), (.p (.mv (.t 17))), none⟩])
 .ret))⟩
/- corral/word.Div -/
def af24 : AFunc := ⟨29, [.t 6],
 (.seq (.reg [⟨(some 6), (.p (.mv (.c (.int .u32 (.lit 0))))), none⟩])
 (.seq (.block 0 (.seq (.reg [⟨(some 8), (.p (.mv (.t 1))), none⟩, ⟨(some 9), (.p (.bin 0 .eql (.t 8) (.c (.int .u32 (.lit 0))))), none⟩, ⟨(some 7), (.p (.mv (.t 9))), none⟩])
 (.cond (.t 7) (.seq (.reg [⟨(some 6), (.p (.mv (.c (.int .u32 (.lit 4294967295))))), none⟩])
 .ret)
 (.seq (.reg [⟨(some 11), (.p (.mv (.t 2))), none⟩, ⟨(some 12), (.p (.mv (.t 11))), none⟩, ⟨(some 13), (.p (.mv (.t 1))), (some (12, true))⟩, ⟨(some 14), (.p (.bin 0 .eql (.t 13) (.c (.int .u32 (.lit 4294967295))))), (some (12, true))⟩, ⟨(some 15), (.pick (.t 12) (.t 14) (.c (.bool (.lit false)))), none⟩, ⟨(some 10), (.p (.mv (.t 15))), none⟩])
 (.cond (.t 10) (.seq (.reg [⟨(some 16), (.p (.mv (.t 0))), none⟩, ⟨(some 17), (.p (.un .neg (.t 16))), none⟩, ⟨(some 6), (.p (.mv (.t 17))), none⟩])
 .ret)
 (.seq (.reg [⟨(some 19), (.p (.mv (.t 2))), none⟩, ⟨(some 18), (.p (.mv (.t 19))), none⟩])
 (.cond (.t 18) (.seq (.reg [⟨(some 20), (.p (.mv (.t 0))), none⟩, ⟨(some 21), (.p (.conv .i32 (.t 20))), none⟩, ⟨(some 22), (.p (.mv (.t 1))), none⟩, ⟨(some 23), (.p (.conv .i32 (.t 22))), none⟩, ⟨(some 24), (.p (.bin 0 .quo (.t 21) (.t 23))), none⟩, ⟨(some 25), (.p (.conv .u32 (.t 24))), none⟩, ⟨(some 6), (.p (.mv (.t 25))), none⟩])
 .ret)
 .skip)))))))
 (.seq (.reg [⟨(some 26), (.p (.mv (.t 0))), none⟩, ⟨(some 27), (.p (.mv (.t 1))), none⟩, ⟨(some 28), (.p (.bin 0 .quo (.t 26) (.t 27))), none⟩, ⟨(some 6), (.p (.mv (.t 28))), none⟩])
 .ret)))⟩
/- corral/word.Rem -/
def af25 : AFunc := ⟨28, [.t 6],
 (.seq (.reg [⟨(some 6), (.p (.mv (.c (.int .u32 (.lit 0))))), none⟩])
 (.seq (.block 0 (.seq (.reg [⟨(some 8), (.p (.mv (.t 1))), none⟩, ⟨(some 9), (.p (.bin 0 .eql (.t 8) (.c (.int .u32 (.lit 0))))), none⟩, ⟨(some 7), (.p (.mv (.t 9))), none⟩])
 (.cond (.t 7) (.seq (.reg [⟨(some 10), (.p (.mv (.t 0))), none⟩, ⟨(some 6), (.p (.mv (.t 10))), none⟩])
 .ret)
 (.seq (.reg [⟨(some 12), (.p (.mv (.t 2))), none⟩, ⟨(some 13), (.p (.mv (.t 12))), none⟩, ⟨(some 14), (.p (.mv (.t 1))), (some (13, true))⟩, ⟨(some 15), (.p (.bin 0 .eql (.t 14) (.c (.int .u32 (.lit 4294967295))))), (some (13, true))⟩, ⟨(some 16), (.pick (.t 13) (.t 15) (.c (.bool (.lit false)))), none⟩, ⟨(some 11), (.p (.mv (.t 16))), none⟩])
 (.cond (.t 11) (.seq (.reg [⟨(some 6), (.p (.mv (.c (.int .u32 (.lit 0))))), none⟩])
 .ret)
 (.seq (.reg [⟨(some 18), (.p (.mv (.t 2))), none⟩, ⟨(some 17), (.p (.mv (.t 18))), none⟩])
 (.cond (.t 17) (.seq (.reg [⟨(some 19), (.p (.mv (.t 0))), none⟩, ⟨(some 20), (.p (.conv .i32 (.t 19))), none⟩, ⟨(some 21), (.p (.mv (.t 1))), none⟩, ⟨(some 22), (.p (.conv .i32 (.t 21))), none⟩, ⟨(some 23), (.p (.bin 0 .rem (.t 20) (.t 22))), none⟩, ⟨(some 24), (.p (.conv .u32 (.t 23))), none⟩, ⟨(some 6), (.p (.mv (.t 24))), none⟩])
 .ret)
 .skip)))))))
 (.seq (.reg [⟨(some 25), (.p (.mv (.t 0))), none⟩, ⟨(some 26), (.p (.mv (.t 1))), none⟩, ⟨(some 27), (.p (.bin 0 .rem (.t 25) (.t 26))), none⟩, ⟨(some 6), (.p (.mv (.t 27))), none⟩])
 .ret)))⟩
/- corral/alu.Amo$1 -/
def af26 : AFunc := ⟨9, [.t 4, .t 5],
 (.seq (.reg [⟨(some 4), (.p (.mv (.c (.int .u32 (.lit 0))))), none⟩, ⟨(some 5), (.p (.mv (.c (.bool (.lit false))))), none⟩])
 (.seq (.seq (.reg [⟨(some 6), (.p (.mv (.t 0))), none⟩])
 (.cond (.t 6) (.seq (.reg [⟨(some 7), (.load false 1 (.t 1)), none⟩, ⟨(some 4), (.p (.mv (.t 7))), none⟩, ⟨(some 5), (.p (.mv (.c (.bool (.lit true))))), none⟩])
 .ret)
 .skip))
 (.seq (.reg [⟨(some 8), (.load false 1 (.t 2)), none⟩, ⟨(some 4), (.p (.mv (.t 8))), none⟩, ⟨(some 5), (.p (.mv (.c (.bool (.lit true))))), none⟩])
 .ret)))⟩
/- corral/alu.loads -/
def af27 : AFunc := ⟨16, [.t 2],
 (.seq (.reg [⟨(some 2), (.p (.mv (.c (.bool (.lit false))))), none⟩])
 (.seq (.reg [⟨(some 4), (.p (.mv (.t 0))), none⟩, ⟨(some 5), (.call (.f 42) [(.t 4)]), none⟩, ⟨(some 3), (.p (.mv (.t 5))), none⟩])
 (.seq (.reg [⟨(some 6), (.p (.mv (.t 3))), none⟩, ⟨(some 7), (.p (.bin 0 .eql (.t 6) (.c (.int .i64 (.lit 4))))), none⟩, ⟨(some 8), (.p (.mv (.t 7))), none⟩, ⟨(some 9), (.p (.mv (.t 3))), (some (8, false))⟩, ⟨(some 10), (.p (.bin 0 .eql (.t 9) (.c (.int .i64 (.lit 6))))), (some (8, false))⟩, ⟨(some 11), (.p (.mv (.t 10))), (some (8, false))⟩, ⟨(some 12), (.p (.mv (.t 0))), (some (11, true))⟩, ⟨(some 13), (.p (.bin 0 .neq (.t 12) (.c (.int .i64 (.lit 60))))), (some (11, true))⟩, ⟨(some 14), (.pick (.t 11) (.t 13) (.c (.bool (.lit false)))), (some (8, false))⟩, ⟨(some 15), (.pick (.t 8) (.c (.bool (.lit true))) (.t 14)), none⟩, ⟨(some 2), (.p (.mv (.t 15))), none⟩])
 .ret)))⟩
/- corral/alu.Size -/
def af28 : AFunc := ⟨19, [.t 2],
 (.seq (.reg [⟨(some 2), (.p (.mv (.c (.int .i64 (.lit 0))))), none⟩])
 (.seq (.seq (.reg [⟨(some 3), (.p (.mv (.t 0))), none⟩])
 (.block 0 (.seq (.seq (.reg [⟨(some 5), (.p (.bin 0 .eql (.t 3) (.c (.int .i64 (.lit 11))))), none⟩, ⟨(some 4), (.p (.mv (.t 5))), none⟩])
 (.cond (.t 4) .skip
 (.seq (.reg [⟨(some 6), (.p (.bin 0 .eql (.t 3) (.c (.int .i64 (.lit 14))))), none⟩, ⟨(some 4), (.p (.mv (.t 6))), none⟩])
 (.cond (.t 4) .skip
 (.reg [⟨(some 7), (.p (.bin 0 .eql (.t 3) (.c (.int .i64 (.lit 16))))), none⟩, ⟨(some 4), (.p (.mv (.t 7))), none⟩])))))
 (.cond (.t 4) (.seq (.reg [⟨(some 2), (.p (.mv (.c (.int .i64 (.lit 1))))), none⟩])
 .ret)
 (.seq (.seq (.reg [⟨(some 9), (.p (.bin 0 .eql (.t 3) (.c (.int .i64 (.lit 12))))), none⟩, ⟨(some 8), (.p (.mv (.t 9))), none⟩])
 (.cond (.t 8) .skip
 (.seq (.reg [⟨(some 10), (.p (.bin 0 .eql (.t 3) (.c (.int .i64 (.lit 15))))), none⟩, ⟨(some 8), (.p (.mv (.t 10))), none⟩])
 (.cond (.t 8) .skip
 (.reg [⟨(some 11), (.p (.bin 0 .eql (.t 3) (.c (.int .i64 (.lit 17))))), none⟩, ⟨(some 8), (.p (.mv (.t 11))), none⟩])))))
 (.cond (.t 8) (.seq (.reg [⟨(some 2), (.p (.mv (.c (.int .i64 (.lit 2))))), none⟩])
 .ret)
 (.seq (.seq (.reg [⟨(some 13), (.p (.bin 0 .eql (.t 3) (.c (.int .i64 (.lit 13))))), none⟩, ⟨(some 12), (.p (.mv (.t 13))), none⟩])
 (.cond (.t 12) .skip
 (.seq (.reg [⟨(some 14), (.p (.bin 0 .eql (.t 3) (.c (.int .i64 (.lit 18))))), none⟩, ⟨(some 12), (.p (.mv (.t 14))), none⟩])
 (.cond (.t 12) .skip
 (.reg [⟨(some 15), (.p (.bin 0 .eql (.t 3) (.c (.int .i64 (.lit 59))))), none⟩, ⟨(some 12), (.p (.mv (.t 15))), none⟩])))))
 (.cond (.t 12) (.seq (.reg [⟨(some 2), (.p (.mv (.c (.int .i64 (.lit 4))))), none⟩])
 .ret)
 .skip))))))))
 (.seq (.seq (.reg [⟨(some 16), (.p (.mv (.t 0))), none⟩, ⟨(some 17), (.call (.f 42) [(.t 16)]), none⟩, ⟨(some 18), (.p (.bin 0 .eql (.t 17) (.c (.int .i64 (.lit 6))))), none⟩])
 (.cond (.t 18) (.seq (.reg [⟨(some 2), (.p (.mv (.c (.int .i64 (.lit 4))))), none⟩])
 .ret)
 .skip))
 (.seq (.reg [⟨(some 2), (.p (.mv (.c (.int .i64 (.lit 0))))), none⟩])
 .ret))))⟩
/- corral/word.Sign -/
def af29 : AFunc := ⟨21, [.t 4],
 (.seq (.reg [⟨(some 4), (.p (.mv (.c (.int .u32 (.lit 0))))), none⟩])
 (.seq (.block 0 (.seq (.reg [⟨(some 6), (.p (.mv (.t 1))), none⟩, ⟨(some 7), (.p (.bin 0 .lss (.t 6) (.c (.int .i64 (.lit 1))))), none⟩, ⟨(some 5), (.p (.mv (.t 7))), none⟩])
 (.cond (.t 5) (.seq (.reg [⟨(some 4), (.p (.mv (.c (.int .u32 (.lit 0))))), none⟩])
 .ret)
 (.seq (.reg [⟨(some 9), (.p (.mv (.t 1))), none⟩, ⟨(some 10), (.p (.bin 0 .geq (.t 9) (.c (.int .i64 (.lit 32))))), none⟩, ⟨(some 8), (.p (.mv (.t 10))), none⟩])
 (.cond (.t 8) (.seq (.reg [⟨(some 11), (.p (.mv (.t 0))), none⟩, ⟨(some 4), (.p (.mv (.t 11))), none⟩])
 .ret)
 .skip)))))
 (.seq (.reg [⟨(some 12), (.p (.mv (.t 0))), none⟩, ⟨(some 13), (.p (.mv (.t 1))), none⟩, ⟨(some 14), (.p (.bin 0 .sub (.c (.int .i64 (.lit 32))) (.t 13))), none⟩, ⟨(some 15), (.p (.bin 0 .shl (.t 12) (.t 14))), none⟩, ⟨(some 16), (.p (.conv .i32 (.t 15))), none⟩, ⟨(some 17), (.p (.mv (.t 1))), none⟩, ⟨(some 18), (.p (.bin 0 .sub (.c (.int .i64 (.lit 32))) (.t 17))), none⟩, ⟨(some 19), (.p (.bin 0 .shr (.t 16) (.t 18))), none⟩, ⟨(some 20), (.p (.conv .u32 (.t 19))), none⟩, ⟨(some 4), (.p (.mv (.t 20))), none⟩])
 .ret)))⟩
/- corral/word.Bits -/
def af30 : AFunc := ⟨23, [.t 6],
 (.seq (.reg [⟨(some 6), (.p (.mv (.c (.int .u32 (.lit 0))))), none⟩])
 (.seq (.seq (.reg [⟨(some 7), (.p (.mv (.t 1))), none⟩, ⟨(some 8), (.p (.bin 0 .lss (.t 7) (.c (.int .i64 (.lit 0))))), none⟩, ⟨(some 9), (.p (.mv (.t 8))), none⟩, ⟨(some 10), (.p (.mv (.t 1))), (some (9, false))⟩, ⟨(some 11), (.p (.bin 0 .geq (.t 10) (.c (.int .i64 (.lit 32))))), (some (9, false))⟩, ⟨(some 12), (.pick (.t 9) (.c (.bool (.lit true))) (.t 11)), none⟩, ⟨(some 13), (.p (.mv (.t 12))), none⟩, ⟨(some 14), (.p (.mv (.t 2))), (some (13, false))⟩, ⟨(some 15), (.p (.bin 0 .lss (.t 14) (.c (.int .i64 (.lit 1))))), (some (13, false))⟩, ⟨(some 16), (.pick (.t 13) (.c (.bool (.lit true))) (.t 15)), none⟩])
 (.cond (.t 16) (.seq (.reg [⟨(some 6), (.p (.mv (.c (.int .u32 (.lit 0))))), none⟩])
 .ret)
 .skip))
 (.seq (.draw [(⟨(some 17), (.p (.mv (.t 0))), none⟩, []), (⟨(some 18), (.p (.mv (.t 1))), none⟩, []), (⟨(some 19), (.p (.bin 0 .shr (.t 17) (.t 18))), none⟩, []), (⟨(some 20), (.p (.mv (.t 2))), none⟩, []), (⟨(some 21), (.call (.f 43) [(.t 20)]), none⟩, []), (⟨(some 22), (.p (.bin 0 .and (.t 19) (.t 21))), none⟩, []), (⟨(some 6), (.p (.mv (.t 22))), none⟩, [])])
 .ret)))⟩
/- corral/enc.Split -/
def af31 : AFunc := ⟨16, [.cell 2 true 6],
 (.seq (.reg [⟨(some 2), (.newC [(.int .u32 (.lit 0)), (.int .u32 (.lit 0)), (.int .u32 (.lit 0)), (.int .u32 (.lit 0)), (.int .u32 (.lit 0)), (.int .u32 (.lit 0))]), none⟩])
 (.seq (.reg [⟨(some 3), (.p (.mv (.t 0))), none⟩, ⟨(some 4), (.call (.f 30) [(.t 3), (.c (.int .i64 (.lit 0))), (.c (.int .i64 (.lit 7)))]), none⟩, ⟨(some 5), (.p (.mv (.t 0))), none⟩, ⟨(some 6), (.call (.f 30) [(.t 5), (.c (.int .i64 (.lit 7))), (.c (.int .i64 (.lit 5)))]), none⟩, ⟨(some 7), (.p (.mv (.t 0))), none⟩, ⟨(some 8), (.call (.f 30) [(.t 7), (.c (.int .i64 (.lit 12))), (.c (.int .i64 (.lit 3)))]), none⟩, ⟨(some 9), (.p (.mv (.t 0))), none⟩, ⟨(some 10), (.call (.f 30) [(.t 9), (.c (.int .i64 (.lit 15))), (.c (.int .i64 (.lit 5)))]), none⟩, ⟨(some 11), (.p (.mv (.t 0))), none⟩, ⟨(some 12), (.call (.f 30) [(.t 11), (.c (.int .i64 (.lit 20))), (.c (.int .i64 (.lit 5)))]), none⟩, ⟨(some 13), (.p (.mv (.t 0))), none⟩, ⟨(some 14), (.call (.f 30) [(.t 13), (.c (.int .i64 (.lit 25))), (.c (.int .i64 (.lit 7)))]), none⟩, ⟨(some 15), (.p (.build [(.int .u32 (.lit 0)), (.int .u32 (.lit 0)), (.int .u32 (.lit 0)), (.int .u32 (.lit 0)), (.int .u32 (.lit 0)), (.int .u32 (.lit 0))] [(0, 1, (.t 4)), (1, 1, (.t 6)), (2, 1, (.t 8)), (3, 1, (.t 10)), (4, 1, (.t 12)), (5, 1, (.t 14))])), none⟩, ⟨none, (.store 6 (.t 2) (.t 15)), none⟩])
 .ret))⟩
/- (corral/isa.row).uses -/
def af32 : AFunc := ⟨26, [.t 2, .t 3, .t 4, .t 5],
 (.seq (.reg [⟨(some 1), (.box 7 (.t 0)), none⟩, ⟨(some 2), (.p (.mv (.c (.bool (.lit false))))), none⟩, ⟨(some 3), (.p (.mv (.c (.bool (.lit false))))), none⟩, ⟨(some 4), (.p (.mv (.c (.bool (.lit false))))), none⟩, ⟨(some 5), (.p (.mv (.c (.bool (.lit false))))), none⟩])
 (.seq (.reg [⟨(some 7), (.p (.mkFunc 44 [] [(.t 1)])), none⟩, ⟨(some 6), (.p (.mv (.t 7))), none⟩])
 (.seq (.reg [⟨(some 8), (.p (.mv (.t 6))), none⟩, ⟨(some 9), (.mkArr 1 5 [(.int .i64 (.lit 0))] [(0, 1, (.c (.int .i64 (.lit 3)))), (1, 1, (.c (.int .i64 (.lit 4)))), (2, 1, (.c (.int .i64 (.lit 7)))), (3, 1, (.c (.int .i64 (.lit 8)))), (4, 1, (.c (.int .i64 (.lit 9))))]), none⟩, ⟨(some 10), (.call (.t 8) [(.t 9)]), none⟩, ⟨(some 11), (.p (.un .not (.t 10))), none⟩, ⟨(some 2), (.p (.mv (.t 11))), none⟩])
 (.seq (.reg [⟨(some 12), (.p (.mv (.t 6))), none⟩, ⟨(some 13), (.mkArr 1 5 [(.int .i64 (.lit 0))] [(0, 1, (.c (.int .i64 (.lit 0)))), (1, 1, (.c (.int .i64 (.lit 1)))), (2, 1, (.c (.int .i64 (.lit 7)))), (3, 1, (.c (.int .i64 (.lit 8)))), (4, 1, (.c (.int .i64 (.lit 11))))]), none⟩, ⟨(some 14), (.call (.t 12) [(.t 13)]), none⟩, ⟨(some 15), (.p (.un .not (.t 14))), none⟩, ⟨(some 3), (.p (.mv (.t 15))), none⟩])
 (.seq (.reg [⟨(some 16), (.p (.mv (.t 6))), none⟩, ⟨(some 17), (.mkArr 1 5 [(.int .i64 (.lit 0))] [(0, 1, (.c (.int .i64 (.lit 3)))), (1, 1, (.c (.int .i64 (.lit 4)))), (2, 1, (.c (.int .i64 (.lit 6)))), (3, 1, (.c (.int .i64 (.lit 9)))), (4, 1, (.c (.int .i64 (.lit 13))))]), none⟩, ⟨(some 18), (.call (.t 16) [(.t 17)]), none⟩, ⟨(some 4), (.p (.mv (.t 18))), none⟩])
 (.seq (.reg [⟨(some 19), (.p (.mv (.t 6))), none⟩, ⟨(some 20), (.mkArr 1 8 [(.int .i64 (.lit 0))] [(0, 1, (.c (.int .i64 (.lit 0)))), (1, 1, (.c (.int .i64 (.lit 1)))), (2, 1, (.c (.int .i64 (.lit 2)))), (3, 1, (.c (.int .i64 (.lit 3)))), (4, 1, (.c (.int .i64 (.lit 4)))), (5, 1, (.c (.int .i64 (.lit 5)))), (6, 1, (.c (.int .i64 (.lit 7)))), (7, 1, (.c (.int .i64 (.lit 11))))]), none⟩, ⟨(some 21), (.call (.t 19) [(.t 20)]), none⟩, ⟨(some 5), (.p (.mv (.t 21))), none⟩])
 (.seq (.reg [⟨(some 22), (.p (.mv (.t 2))), none⟩, ⟨(some 23), (.p (.mv (.t 3))), none⟩, ⟨(some 24), (.p (.mv (.t 4))), none⟩, ⟨(some 25), (.p (.mv (.t 5))), none⟩, ⟨(some 2), (.p (.mv (.t 22))), none⟩, ⟨(some 3), (.p (.mv (.t 23))), none⟩, ⟨(some 4), (.p (.mv (.t 24))), none⟩, ⟨(some 5), (.p (.mv (.t 25))), none⟩])
 .ret)))))))⟩
/- (corral/isa.row).imm -/
def af33 : AFunc := ⟨23, [.t 4],
 (.seq (.reg [⟨(some 2), (.box 7 (.t 0)), none⟩, ⟨(some 4), (.p (.mv (.c (.int .u32 (.lit 0))))), none⟩])
 (.seq (.seq (.reg [⟨(some 5), (.p (.fieldAddr 2 (.t 2))), none⟩, ⟨(some 6), (.load false 1 (.t 5)), none⟩])
 (.block 0 (.seq (.reg [⟨(some 8), (.p (.bin 0 .eql (.t 6) (.c (.int .i64 (.lit 5))))), none⟩, ⟨(some 7), (.p (.mv (.t 8))), none⟩])
 (.cond (.t 7) (.seq (.reg [⟨(some 9), (.p (.mv (.t 1))), none⟩, ⟨(some 10), (.call (.f 30) [(.t 9), (.c (.int .i64 (.lit 20))), (.c (.int .i64 (.lit 5)))]), none⟩, ⟨(some 4), (.p (.mv (.t 10))), none⟩])
 .ret)
 (.seq (.reg [⟨(some 12), (.p (.bin 0 .eql (.t 6) (.c (.int .i64 (.lit 7))))), none⟩, ⟨(some 11), (.p (.mv (.t 12))), none⟩])
 (.cond (.t 11) (.seq (.reg [⟨(some 13), (.p (.mv (.t 1))), none⟩, ⟨(some 14), (.call (.f 30) [(.t 13), (.c (.int .i64 (.lit 20))), (.c (.int .i64 (.lit 8)))]), none⟩, ⟨(some 4), (.p (.mv (.t 14))), none⟩])
 .ret)
 (.seq (.reg [⟨(some 16), (.p (.bin 0 .eql (.t 6) (.c (.int .i64 (.lit 11))))), none⟩, ⟨(some 15), (.p (.mv (.t 16))), none⟩])
 (.cond (.t 15) (.seq (.reg [⟨(some 17), (.p (.mv (.t 1))), none⟩, ⟨(some 18), (.call (.f 30) [(.t 17), (.c (.int .i64 (.lit 15))), (.c (.int .i64 (.lit 5)))]), none⟩, ⟨(some 4), (.p (.mv (.t 18))), none⟩])
 .ret)
 .skip))))))))
 (.seq (.reg [⟨(some 19), (.load true 7 (.t 2)), none⟩, ⟨(some 20), (.call (.f 47) [(.t 19)]), none⟩, ⟨(some 21), (.p (.mv (.t 1))), none⟩, ⟨(some 22), (.call (.f 46) [(.t 20), (.t 21)]), none⟩, ⟨(some 4), (.p (.mv (.t 22))), none⟩])
 .ret)))⟩
/- corral/corralref1.plain -/
def af34 : AFunc := ⟨23, [.t 2],
 (.seq (.reg [⟨(some 2), (.p (.mv (.c (.int .i64 (.lit 0))))), none⟩])
 (.seq (.seq (.reg [⟨(some 3), (.p (.mv (.t 0))), none⟩])
 (.block 0 (.seq (.reg [⟨(some 5), (.p (.bin 0 .eql (.t 3) (.c (.int .i64 (.lit 19))))), none⟩, ⟨(some 4), (.p (.mv (.t 5))), none⟩])
 (.cond (.t 4) (.seq (.reg [⟨(some 2), (.p (.mv (.c (.int .i64 (.lit 28))))), none⟩])
 .ret)
 (.seq (.reg [⟨(some 7), (.p (.bin 0 .eql (.t 3) (.c (.int .i64 (.lit 20))))), none⟩, ⟨(some 6), (.p (.mv (.t 7))), none⟩])
 (.cond (.t 6) (.seq (.reg [⟨(some 2), (.p (.mv (.c (.int .i64 (.lit 31))))), none⟩])
 .ret)
 (.seq (.reg [⟨(some 9), (.p (.bin 0 .eql (.t 3) (.c (.int .i64 (.lit 21))))), none⟩, ⟨(some 8), (.p (.mv (.t 9))), none⟩])
 (.cond (.t 8) (.seq (.reg [⟨(some 2), (.p (.mv (.c (.int .i64 (.lit 32))))), none⟩])
 .ret)
 (.seq (.reg [⟨(some 11), (.p (.bin 0 .eql (.t 3) (.c (.int .i64 (.lit 22))))), none⟩, ⟨(some 10), (.p (.mv (.t 11))), none⟩])
 (.cond (.t 10) (.seq (.reg [⟨(some 2), (.p (.mv (.c (.int .i64 (.lit 33))))), none⟩])
 .ret)
 (.seq (.reg [⟨(some 13), (.p (.bin 0 .eql (.t 3) (.c (.int .i64 (.lit 23))))), none⟩, ⟨(some 12), (.p (.mv (.t 13))), none⟩])
 (.cond (.t 12) (.seq (.reg [⟨(some 2), (.p (.mv (.c (.int .i64 (.lit 36))))), none⟩])
 .ret)
 (.seq (.reg [⟨(some 15), (.p (.bin 0 .eql (.t 3) (.c (.int .i64 (.lit 24))))), none⟩, ⟨(some 14), (.p (.mv (.t 15))), none⟩])
 (.cond (.t 14) (.seq (.reg [⟨(some 2), (.p (.mv (.c (.int .i64 (.lit 37))))), none⟩])
 .ret)
 (.seq (.reg [⟨(some 17), (.p (.bin 0 .eql (.t 3) (.c (.int .i64 (.lit 25))))), none⟩, ⟨(some 16), (.p (.mv (.t 17))), none⟩])
 (.cond (.t 16) (.seq (.reg [⟨(some 2), (.p (.mv (.c (.int .i64 (.lit 30))))), none⟩])
 .ret)
 (.seq (.reg [⟨(some 19), (.p (.bin 0 .eql (.t 3) (.c (.int .i64 (.lit 26))))), none⟩, ⟨(some 18), (.p (.mv (.t 19))), none⟩])
 (.cond (.t 18) (.seq (.reg [⟨(some 2), (.p (.mv (.c (.int .i64 (.lit 34))))), none⟩])
 .ret)
 (.seq (.reg [⟨(some 21), (.p (.bin 0 .eql (.t 3) (.c (.int .i64 (.lit 27))))), none⟩, ⟨(some 20), (.p (.mv (.t 21))), none⟩])
 (.cond (.t 20) (.seq (.reg [⟨(some 2), (.p (.mv (.c (.int .i64 (.lit 35))))), none⟩])
 .ret)
 .skip))))))))))))))))))))
 (.seq (.reg [⟨(some 22), (.p (.mv (.t 0))), none⟩, ⟨(some 2), (.p (.mv (.t 22))), none⟩])
 .ret)))⟩
/- corral/corralref1.one -/
def af35 : AFunc := ⟨4, [.t 2],
 (.seq (.reg [⟨(some 2), (.p (.mv (.c (.int .u32 (.lit 0))))), none⟩])
 (.seq (.seq (.reg [⟨(some 3), (.p (.mv (.t 0))), none⟩])
 (.cond (.t 3) (.seq (.reg [⟨(some 2), (.p (.mv (.c (.int .u32 (.lit 1))))), none⟩])
 .ret)
 .skip))
 (.seq (.reg [⟨(some 2), (.p (.mv (.c (.int .u32 (.lit 0))))), none⟩])
 .ret)))⟩
/- corral/corralref1.Less -/
def af36 : AFunc := ⟨16, [.t 6],
 (.seq (.reg [⟨(some 6), (.p (.mv (.c (.bool (.lit false))))), none⟩])
 (.seq (.seq (.reg [⟨(some 7), (.p (.mv (.t 2))), none⟩])
 (.cond (.t 7) (.seq (.reg [⟨(some 8), (.p (.mv (.t 0))), none⟩, ⟨(some 9), (.p (.conv .i32 (.t 8))), none⟩, ⟨(some 10), (.p (.mv (.t 1))), none⟩, ⟨(some 11), (.p (.conv .i32 (.t 10))), none⟩, ⟨(some 12), (.p (.bin 0 .lss (.t 9) (.t 11))), none⟩, ⟨(some 6), (.p (.mv (.t 12))), none⟩])
 .ret)
 .skip))
 (.seq (.reg [⟨(some 13), (.p (.mv (.t 0))), none⟩, ⟨(some 14), (.p (.mv (.t 1))), none⟩, ⟨(some 15), (.p (.bin 0 .lss (.t 13) (.t 14))), none⟩, ⟨(some 6), (.p (.mv (.t 15))), none⟩])
 .ret)))⟩
/- corral/corralref1.Right -/
def af37 : AFunc := ⟨20, [.t 6],
 (.seq (.reg [⟨(some 6), (.p (.mv (.c (.int .u32 (.lit 0))))), none⟩])
 (.seq (.reg [⟨(some 8), (.p (.mv (.t 1))), none⟩, ⟨(some 9), (.p (.bin 0 .and (.t 8) (.c (.int .i64 (.lit 31))))), none⟩, ⟨(some 10), (.p (.conv .u64 (.t 9))), none⟩, ⟨(some 7), (.p (.mv (.t 10))), none⟩])
 (.seq (.seq (.reg [⟨(some 11), (.p (.mv (.t 2))), none⟩])
 (.cond (.t 11) (.seq (.reg [⟨(some 12), (.p (.mv (.t 0))), none⟩, ⟨(some 13), (.p (.conv .i32 (.t 12))), none⟩, ⟨(some 14), (.p (.mv (.t 7))), none⟩, ⟨(some 15), (.p (.bin 0 .shr (.t 13) (.t 14))), none⟩, ⟨(some 16), (.p (.conv .u32 (.t 15))), none⟩, ⟨(some 6), (.p (.mv (.t 16))), none⟩])
 .ret)
 .skip))
 (.seq (.reg [⟨(some 17), (.p (.mv (.t 0))), none⟩, ⟨(some 18), (.p (.mv (.t 7))), none⟩, ⟨(some 19), (.p (.bin 0 .shr (.t 17) (.t 18))), none⟩, ⟨(some 6), (.p (.mv (.t 19))), none⟩])
 .ret))))⟩
/- corral/corralref1.High -/
def af38 : AFunc := ⟨48, [.t 8],
 (.seq (.reg [⟨(some 8), (.p (.mv (.c (.int .u32 (.lit 0))))), none⟩])
 (.seq (.reg [⟨(some 11), (.p (.mv (.t 0))), none⟩, ⟨(some 12), (.p (.conv .i64 (.t 11))), none⟩, ⟨(some 9), (.p (.mv (.t 12))), none⟩])
 (.seq (.reg [⟨(some 13), (.p (.mv (.t 1))), none⟩, ⟨(some 14), (.p (.conv .i64 (.t 13))), none⟩, ⟨(some 10), (.p (.mv (.t 14))), none⟩])
 (.seq (.seq (.reg [⟨(some 15), (.p (.mv (.t 2))), none⟩, ⟨(some 16), (.p (.mv (.t 15))), none⟩, ⟨(some 17), (.p (.mv (.t 0))), (some (16, true))⟩, ⟨(some 18), (.p (.bin 0 .geq (.t 17) (.c (.int .u32 (.lit 2147483648))))), (some (16, true))⟩, ⟨(some 19), (.pick (.t 16) (.t 18) (.c (.bool (.lit false)))), none⟩])
 (.cond (.t 19) (.reg [⟨(some 20), (.p (.mv (.t 9))), none⟩, ⟨(some 21), (.p (.bin 0 .sub (.t 20) (.c (.int .i64 (.lit 4294967296))))), none⟩, ⟨(some 9), (.p (.mv (.t 21))), none⟩])
 .skip))
 (.seq (.seq (.reg [⟨(some 22), (.p (.mv (.t 3))), none⟩, ⟨(some 23), (.p (.mv (.t 22))), none⟩, ⟨(some 24), (.p (.mv (.t 1))), (some (23, true))⟩, ⟨(some 25), (.p (.bin 0 .geq (.t 24) (.c (.int .u32 (.lit 2147483648))))), (some (23, true))⟩, ⟨(some 26), (.pick (.t 23) (.t 25) (.c (.bool (.lit false)))), none⟩])
 (.cond (.t 26) (.reg [⟨(some 27), (.p (.mv (.t 10))), none⟩, ⟨(some 28), (.p (.bin 0 .sub (.t 27) (.c (.int .i64 (.lit 4294967296))))), none⟩, ⟨(some 10), (.p (.mv (.t 28))), none⟩])
 .skip))
 (.seq (.seq (.reg [⟨(some 29), (.p (.mv (.t 2))), none⟩, ⟨(some 30), (.p (.un .not (.t 29))), none⟩, ⟨(some 31), (.p (.mv (.t 30))), none⟩, ⟨(some 32), (.p (.mv (.t 3))), (some (31, true))⟩, ⟨(some 33), (.p (.un .not (.t 32))), (some (31, true))⟩, ⟨(some 34), (.pick (.t 31) (.t 33) (.c (.bool (.lit false)))), none⟩])
 (.cond (.t 34) (.seq (.reg [⟨(some 35), (.p (.mv (.t 0))), none⟩, ⟨(some 36), (.p (.conv .u64 (.t 35))), none⟩, ⟨(some 37), (.p (.mv (.t 1))), none⟩, ⟨(some 38), (.p (.conv .u64 (.t 37))), none⟩, ⟨(some 39), (.p (.bin 0 .mul (.t 36) (.t 38))), none⟩, ⟨(some 40), (.p (.bin 0 .shr (.t 39) (.c (.int .u64 (.lit 32))))), none⟩, ⟨(some 41), (.p (.conv .u32 (.t 40))), none⟩, ⟨(some 8), (.p (.mv (.t 41))), none⟩])
 .ret)
 .skip))
 (.seq (.reg [⟨(some 42), (.p (.mv (.t 9))), none⟩, ⟨(some 43), (.p (.mv (.t 10))), none⟩, ⟨(some 44), (.p (.bin 0 .mul (.t 42) (.t 43))), none⟩, ⟨(some 45), (.p (.conv .u64 (.t 44))), none⟩, ⟨(some 46), (.p (.bin 0 .shr (.t 45) (.c (.int .u64 (.lit 32))))), none⟩, ⟨(some 47), (.p (.conv .u32 (.t 46))), none⟩, ⟨(some 8), (.p (.mv (.t 47))), none⟩])
 .ret)))))))⟩
/- corral/corralref1.Div -/
def af39 : AFunc := ⟨24, [.t 6],
 (.seq (.reg [⟨(some 6), (.p (.mv (.c (.int .u32 (.lit 0))))), none⟩])
 (.seq (.seq (.reg [⟨(some 7), (.p (.mv (.t 1))), none⟩, ⟨(some 8), (.p (.bin 0 .eql (.t 7) (.c (.int .u32 (.lit 0))))), none⟩])
 (.cond (.t 8) (.seq (.reg [⟨(some 6), (.p (.mv (.c (.int .u32 (.lit 4294967295))))), none⟩])
 .ret)
 .skip))
 (.seq (.seq (.reg [⟨(some 9), (.p (.mv (.t 2))), none⟩, ⟨(some 10), (.p (.un .not (.t 9))), none⟩])
 (.cond (.t 10) (.seq (.reg [⟨(some 11), (.p (.mv (.t 0))), none⟩, ⟨(some 12), (.p (.mv (.t 1))), none⟩, ⟨(some 13), (.p (.bin 0 .quo (.t 11) (.t 12))), none⟩, ⟨(some 6), (.p (.mv (.t 13))), none⟩])
 .ret)
 .skip))
 (.seq (.seq (.reg [⟨(some 14), (.p (.mv (.t 1))), none⟩, ⟨(some 15), (.p (.bin 0 .eql (.t 14) (.c (.int .u32 (.lit 4294967295))))), none⟩])
 (.cond (.t 15) (.seq (.reg [⟨(some 16), (.p (.mv (.t 0))), none⟩, ⟨(some 17), (.p (.un .neg (.t 16))), none⟩, ⟨(some 6), (.p (.mv (.t 17))), none⟩])
 .ret)
 .skip))
 (.seq (.reg [⟨(some 18), (.p (.mv (.t 0))), none⟩, ⟨(some 19), (.p (.conv .i32 (.t 18))), none⟩, ⟨(some 20), (.p (.mv (.t 1))), none⟩, ⟨(some 21), (.p (.conv .i32 (.t 20))), none⟩, ⟨(some 22), (.p (.bin 0 .quo (.t 19) (.t 21))), none⟩, ⟨(some 23), (.p (.conv .u32 (.t 22))), none⟩, ⟨(some 6), (.p (.mv (.t 23))), none⟩])
 .ret)))))⟩
/- corral/corralref1.Rem -/
def af40 : AFunc := ⟨23, [.t 6],
 (.seq (.reg [⟨(some 6), (.p (.mv (.c (.int .u32 (.lit 0))))), none⟩])
 (.seq (.seq (.reg [⟨(some 7), (.p (.mv (.t 1))), none⟩, ⟨(some 8), (.p (.bin 0 .eql (.t 7) (.c (.int .u32 (.lit 0))))), none⟩])
 (.cond (.t 8) (.seq (.reg [⟨(some 9), (.p (.mv (.t 0))), none⟩, ⟨(some 6), (.p (.mv (.t 9))), none⟩])
 .ret)
 .skip))
 (.seq (.seq (.reg [⟨(some 10), (.p (.mv (.t 2))), none⟩, ⟨(some 11), (.p (.un .not (.t 10))), none⟩])
 (.cond (.t 11) (.seq (.reg [⟨(some 12), (.p (.mv (.t 0))), none⟩, ⟨(some 13), (.p (.mv (.t 1))), none⟩, ⟨(some 14), (.p (.bin 0 .rem (.t 12) (.t 13))), none⟩, ⟨(some 6), (.p (.mv (.t 14))), none⟩])
 .ret)
 .skip))
 (.seq (.seq (.reg [⟨(some 15), (.p (.mv (.t 1))), none⟩, ⟨(some 16), (.p (.bin 0 .eql (.t 15) (.c (.int .u32 (.lit 4294967295))))), none⟩])
 (.cond (.t 16) (.seq (.reg [⟨(some 6), (.p (.mv (.c (.int .u32 (.lit 0))))), none⟩])
 .ret)
 .skip))
 (.seq (.reg [⟨(some 17), (.p (.mv (.t 0))), none⟩, ⟨(some 18), (.p (.conv .i32 (.t 17))), none⟩, ⟨(some 19), (.p (.mv (.t 1))), none⟩, ⟨(some 20), (.p (.conv .i32 (.t 19))), none⟩, ⟨(some 21), (.p (.bin 0 .rem (.t 18) (.t 20))), none⟩, ⟨(some 22), (.p (.conv .u32 (.t 21))), none⟩, ⟨(some 6), (.p (.mv (.t 22))), none⟩])
 .ret)))))⟩
/- corral/word.wide -/
def af41 : AFunc := ⟨12, [.t 4],
 (.seq (.reg [⟨(some 4), (.p (.mv (.c (.int .u64 (.lit 0))))), none⟩])
 (.seq (.seq (.reg [⟨(some 5), (.p (.mv (.t 1))), none⟩])
 (.cond (.t 5) (.seq (.reg [⟨(some 6), (.p (.mv (.t 0))), none⟩, ⟨(some 7), (.p (.conv .i32 (.t 6))), none⟩, ⟨(some 8), (.p (.conv .i64 (.t 7))), none⟩, ⟨(some 9), (.p (.conv .u64 (.t 8))), none⟩, ⟨(some 4), (.p (.mv (.t 9))), none⟩])
 .ret)
 .skip))
 (.seq (.reg [⟨(some 10), (.p (.mv (.t 0))), none⟩, ⟨(some 11), (.p (.conv .u64 (.t 10))), none⟩, ⟨(some 4), (.p (.mv (.t 11))), none⟩])
 .ret)))⟩
/- corral/isa.Kind -/
def af42 : AFunc := ⟨12, [.t 2],
 (.seq (.reg [⟨(some 2), (.p (.mv (.c (.int .i64 (.lit 0))))), none⟩])
 (.seq (.reg [⟨(some 6), (.p (.mv (.t 0))), none⟩, ⟨(some 7), (.call (.f 48) [(.t 6)]), none⟩, ⟨(some 5), (.p (.mv (.t 7))), none⟩, ⟨(some 8), (.p (.extract 0 (.t 5))), none⟩, ⟨(some 9), (.p (.extract 1 (.t 5))), none⟩, ⟨(some 3), (.newC [(.int .i64 (.lit 0)), (.str ⟨#[]⟩), (.int .i64 (.lit 0)), (.int .u32 (.lit 0)), (.int .u32 (.lit 0)), (.int .u32 (.lit 0)), (.int .i64 (.lit 0))]), none⟩, ⟨none, (.store 7 (.t 3) (.t 8)), none⟩, ⟨(some 4), (.p (.mv (.t 9))), none⟩])
 (.seq (.reg [⟨(some 10), (.p (.fieldAddr 6 (.t 3))), none⟩, ⟨(some 11), (.load false 1 (.t 10)), none⟩, ⟨(some 2), (.p (.mv (.t 11))), none⟩])
 .ret)))⟩
/- corral/word.mask -/
def af43 : AFunc := ⟨9, [.t 2],
 (.seq (.reg [⟨(some 2), (.p (.mv (.c (.int .u32 (.lit 0))))), none⟩])
 (.seq (.seq (.reg [⟨(some 3), (.p (.mv (.t 0))), none⟩, ⟨(some 4), (.p (.bin 0 .geq (.t 3) (.c (.int .i64 (.lit 32))))), none⟩])
 (.cond (.t 4) (.seq (.reg [⟨(some 2), (.p (.mv (.c (.int .u32 (.lit 4294967295))))), none⟩])
 .ret)
 .skip))
 (.seq (.reg [⟨(some 5), (.p (.mv (.t 0))), none⟩, ⟨(some 6), (.p (.mx (.t 5) (.c (.int .i64 (.lit 0))))), none⟩, ⟨(some 7), (.p (.bin 0 .shl (.c (.int .u32 (.lit 1))) (.t 6))), none⟩, ⟨(some 8), (.p (.bin 0 .sub (.t 7) (.c (.int .u32 (.lit 1))))), none⟩, ⟨(some 2), (.p (.mv (.t 8))), none⟩])
 .ret)))⟩
/- (corral/isa.row).uses$1 -/
def af44 : AFunc := ⟨8, [.t 3],
 (.seq (.reg [⟨(some 3), (.p (.mv (.c (.bool (.lit false))))), none⟩])
 (.seq (.reg [⟨(some 4), (.p (.mv (.t 0))), none⟩, ⟨(some 5), (.p (.fieldAddr 2 (.t 1))), none⟩, ⟨(some 6), (.load false 1 (.t 5)), none⟩, ⟨(some 7), (.call (.f 45) [(.t 4), (.t 6)]), none⟩, ⟨(some 3), (.p (.mv (.t 7))), none⟩])
 .ret))⟩
/- slices.Contains[[]int,int] -/
def af45 : AFunc := ⟨9, [.t 4],
 (.seq (.reg [⟨(some 4), (.p (.mv (.c (.bool (.lit false))))), none⟩])
 (.seq (.reg [⟨(some 5), (.p (.mv (.t 0))), none⟩, ⟨(some 6), (.p (.mv (.t 1))), none⟩, ⟨(some 7), (.call (.f 49) [(.t 5), (.t 6)]), none⟩, ⟨(some 8), (.p (.bin 0 .geq (.t 7) (.c (.int .i64 (.lit 0))))), none⟩, ⟨(some 4), (.p (.mv (.t 8))), none⟩])
 .ret))⟩
/- corral/enc.Imm -/
def af46 : AFunc := ⟨36, [.t 4],
 (.seq (.reg [⟨(some 4), (.p (.mv (.c (.int .u32 (.lit 0))))), none⟩])
 (.seq (.reg [⟨(some 11), (.p (.mv (.t 0))), none⟩, ⟨(some 12), (.call (.f 50) [(.t 11)]), none⟩, ⟨(some 10), (.p (.mv (.t 12))), none⟩, ⟨(some 13), (.p (.extract 0 (.t 10))), none⟩, ⟨(some 14), (.p (.extract 1 (.t 10))), none⟩, ⟨(some 5), (.p (.mv (.t 13))), none⟩, ⟨(some 6), (.p (.mv (.t 14))), none⟩])
 (.seq (.reg [⟨(some 7), (.p (.mv (.c (.int .u32 (.lit 0))))), none⟩])
 (.seq (.seq (.reg [⟨(some 15), (.p (.mv (.t 5))), none⟩, ⟨(some 16), (.p (.lenS (.t 15))), none⟩, ⟨(some 17), (.p (.mv (.c (.int .i64 (.lit 0))))), none⟩])
 (.block 0 (.loop (.seq (.reg [⟨(some 18), (.p (.bin 0 .lss (.t 17) (.t 16))), none⟩])
 (.seq (.cond (.t 18) .skip
 (.exit 0))
 (.seq (.block 1 (.seq (.reg [⟨(some 19), (.p (.idxSl 3 (.t 15) (.t 17))), none⟩, ⟨(some 20), (.load true 3 (.t 19)), none⟩, ⟨(some 9), (.newC [(.int .i64 (.lit 0)), (.int .i64 (.lit 0)), (.int .i64 (.lit 0))]), none⟩, ⟨none, (.store 3 (.t 9) (.t 20)), none⟩])
 (.draw [(⟨(some 21), (.p (.mv (.t 7))), none⟩, []), (⟨(some 22), (.p (.mv (.t 1))), none⟩, []), (⟨(some 23), (.p (.fieldAddr 0 (.t 9))), none⟩, []), (⟨(some 24), (.load false 1 (.t 23)), none⟩, []), (⟨(some 25), (.p (.fieldAddr 1 (.t 9))), none⟩, []), (⟨(some 26), (.load false 1 (.t 25)), none⟩, []), (⟨(some 27), (.call (.f 30) [(.t 22), (.t 24), (.t 26)]), none⟩, []), (⟨(some 28), (.p (.fieldAddr 2 (.t 9))), none⟩, []), (⟨(some 29), (.load false 1 (.t 28)), none⟩, [6]), (⟨(some 30), (.p (.bin 0 .shl (.t 27) (.t 29))), none⟩, []), (⟨(some 31), (.p (.bin 0 .or (.t 21) (.t 30))), none⟩, []), (⟨(some 7), (.p (.mv (.t 31))), none⟩, [])])))
 (.reg [⟨(some 32), (.p (.bin 0 .add (.t 17) (.c (.int .i64 (.lit 1))))), none⟩, ⟨(some 17), (.p (.mv (.t 32))), none⟩])))))))
 (.seq (.reg [⟨(some 33), (.p (.mv (.t 7))), none⟩, ⟨(some 34), (.p (.mv (.t 6))), none⟩, ⟨(some 35), (.call (.f 29) [(.t 33), (.t 34)]), none⟩, ⟨(some 4), (.p (.mv (.t 35))), none⟩])
 .ret)))))⟩
/- (corral/isa.row).format -/
def af47 : AFunc := ⟨15, [.t 2],
 (.seq (.reg [⟨(some 1), (.box 7 (.t 0)), none⟩, ⟨(some 2), (.p (.mv (.c (.int .u8 (.lit 0))))), none⟩])
 (.seq (.seq (.reg [⟨(some 3), (.p (.fieldAddr 2 (.t 1))), none⟩, ⟨(some 4), (.load false 1 (.t 3)), none⟩])
 (.block 0 (.seq (.reg [⟨(some 6), (.p (.bin 0 .eql (.t 4) (.c (.int .i64 (.lit 0))))), none⟩, ⟨(some 5), (.p (.mv (.t 6))), none⟩])
 (.cond (.t 5) (.seq (.reg [⟨(some 2), (.p (.mv (.c (.int .u8 (.lit 85))))), none⟩])
 .ret)
 (.seq (.reg [⟨(some 8), (.p (.bin 0 .eql (.t 4) (.c (.int .i64 (.lit 1))))), none⟩, ⟨(some 7), (.p (.mv (.t 8))), none⟩])
 (.cond (.t 7) (.seq (.reg [⟨(some 2), (.p (.mv (.c (.int .u8 (.lit 74))))), none⟩])
 .ret)
 (.seq (.reg [⟨(some 10), (.p (.bin 0 .eql (.t 4) (.c (.int .i64 (.lit 2))))), none⟩, ⟨(some 9), (.p (.mv (.t 10))), none⟩])
 (.cond (.t 9) (.seq (.reg [⟨(some 2), (.p (.mv (.c (.int .u8 (.lit 73))))), none⟩])
 .ret)
 (.seq (.reg [⟨(some 12), (.p (.bin 0 .eql (.t 4) (.c (.int .i64 (.lit 3))))), none⟩, ⟨(some 11), (.p (.mv (.t 12))), none⟩])
 (.cond (.t 11) (.seq (.reg [⟨(some 2), (.p (.mv (.c (.int .u8 (.lit 66))))), none⟩])
 .ret)
 (.seq (.reg [⟨(some 14), (.p (.bin 0 .eql (.t 4) (.c (.int .i64 (.lit 4))))), none⟩, ⟨(some 13), (.p (.mv (.t 14))), none⟩])
 (.cond (.t 13) (.seq (.reg [⟨(some 2), (.p (.mv (.c (.int .u8 (.lit 83))))), none⟩])
 .ret)
 .skip))))))))))))
 (.seq (.reg [⟨(some 2), (.p (.mv (.c (.int .u8 (.lit 0))))), none⟩])
 .ret)))⟩
/- corral/isa.find -/
def af48 : AFunc := ⟨16, [.cell 2 true 7, .t 3],
 (.seq (.reg [⟨(some 2), (.newC [(.int .i64 (.lit 0)), (.str ⟨#[]⟩), (.int .i64 (.lit 0)), (.int .u32 (.lit 0)), (.int .u32 (.lit 0)), (.int .u32 (.lit 0)), (.int .i64 (.lit 0))]), none⟩, ⟨(some 3), (.p (.mv (.c (.bool (.lit false))))), none⟩])
 (.seq (.seq (.reg [⟨(some 4), (.p (.mv (.t 0))), none⟩, ⟨(some 5), (.p (.bin 0 .lss (.t 4) (.c (.int .i64 (.lit 1))))), none⟩, ⟨(some 6), (.p (.mv (.t 5))), none⟩, ⟨(some 7), (.p (.mv (.t 0))), (some (6, false))⟩, ⟨(some 8), (.p (.bin 0 .gtr (.t 7) (.c (.int .i64 (.lit 69))))), (some (6, false))⟩, ⟨(some 9), (.pick (.t 6) (.c (.bool (.lit true))) (.t 8)), none⟩])
 (.cond (.t 9) (.seq (.reg [⟨(some 10), (.p (.build [(.int .i64 (.lit 0)), (.str ⟨#[]⟩), (.int .i64 (.lit 0)), (.int .u32 (.lit 0)), (.int .u32 (.lit 0)), (.int .u32 (.lit 0)), (.int .i64 (.lit 0))] [])), none⟩, ⟨none, (.store 7 (.t 2) (.t 10)), none⟩, ⟨(some 3), (.p (.mv (.c (.bool (.lit false))))), none⟩])
 .ret)
 .skip))
 (.seq (.reg [⟨(some 11), (.call (.f 13) []), none⟩, ⟨(some 12), (.p (.mv (.t 0))), none⟩, ⟨(some 13), (.p (.bin 0 .sub (.t 12) (.c (.int .i64 (.lit 1))))), none⟩, ⟨(some 14), (.p (.idxSl 7 (.t 11) (.t 13))), none⟩, ⟨(some 15), (.load true 7 (.t 14)), none⟩, ⟨none, (.store 7 (.t 2) (.t 15)), none⟩, ⟨(some 3), (.p (.mv (.c (.bool (.lit true))))), none⟩])
 .ret)))⟩
/- slices.Index[[]int,int] -/
def af49 : AFunc := ⟨19, [.t 4],
 (.seq (.reg [⟨(some 4), (.p (.mv (.c (.int .i64 (.lit 0))))), none⟩])
 (.seq (.seq (.reg [⟨(some 6), (.p (.mv (.t 0))), none⟩, ⟨(some 7), (.p (.lenS (.t 6))), none⟩, ⟨(some 8), (.p (.mv (.c (.int .i64 (.lit 0))))), none⟩])
 (.block 0 (.loop (.seq (.reg [⟨(some 9), (.p (.bin 0 .lss (.t 8) (.t 7))), none⟩])
 (.seq (.cond (.t 9) .skip
 (.exit 0))
 (.seq (.block 1 (.seq (.reg [⟨(some 10), (.p (.mv (.t 8))), none⟩, ⟨(some 5), (.p (.mv (.t 10))), none⟩])
 (.seq (.reg [⟨(some 11), (.p (.mv (.t 1))), none⟩, ⟨(some 12), (.p (.mv (.t 0))), none⟩, ⟨(some 13), (.p (.mv (.t 5))), none⟩, ⟨(some 14), (.p (.idxSl 1 (.t 12) (.t 13))), none⟩, ⟨(some 15), (.load false 1 (.t 14)), none⟩, ⟨(some 16), (.p (.bin 0 .eql (.t 11) (.t 15))), none⟩])
 (.cond (.t 16) (.seq (.reg [⟨(some 17), (.p (.mv (.t 5))), none⟩, ⟨(some 4), (.p (.mv (.t 17))), none⟩])
 .ret)
 .skip))))
 (.reg [⟨(some 18), (.p (.bin 0 .add (.t 8) (.c (.int .i64 (.lit 1))))), none⟩, ⟨(some 8), (.p (.mv (.t 18))), none⟩])))))))
 (.seq (.reg [⟨(some 4), (.p (.mv (.c (.int .i64 (.lit (-1)))))), none⟩])
 .ret)))⟩
/- corral/enc.pieces -/
def af50 : AFunc := ⟨32, [.t 2, .t 3],
 (.seq (.reg [⟨(some 2), (.p (.mv (.c .nilSlice))), none⟩, ⟨(some 3), (.p (.mv (.c (.int .i64 (.lit 0))))), none⟩])
 (.seq (.seq (.reg [⟨(some 4), (.p (.mv (.t 0))), none⟩])
 (.block 0 (.seq (.reg [⟨(some 6), (.p (.bin 0 .eql (.t 4) (.c (.int .u8 (.lit 73))))), none⟩, ⟨(some 5), (.p (.mv (.t 6))), none⟩])
 (.cond (.t 5) (.seq (.reg [⟨(some 7), (.p (.build [(.int .i64 (.lit 0)), (.int .i64 (.lit 0)), (.int .i64 (.lit 0))] [(0, 1, (.c (.int .i64 (.lit 20)))), (1, 1, (.c (.int .i64 (.lit 12)))), (2, 1, (.c (.int .i64 (.lit 0))))])), none⟩, ⟨(some 8), (.mkArr 3 1 [(.int .i64 (.lit 0)), (.int .i64 (.lit 0)), (.int .i64 (.lit 0))] [(0, 3, (.t 7))]), none⟩, ⟨(some 2), (.p (.mv (.t 8))), none⟩, ⟨(some 3), (.p (.mv (.c (.int .i64 (.lit 12))))), none⟩])
 .ret)
 (.seq (.reg [⟨(some 10), (.p (.bin 0 .eql (.t 4) (.c (.int .u8 (.lit 83))))), none⟩, ⟨(some 9), (.p (.mv (.t 10))), none⟩])
 (.cond (.t 9) (.seq (.reg [⟨(some 11), (.p (.build [(.int .i64 (.lit 0)), (.int .i64 (.lit 0)), (.int .i64 (.lit 0))] [(0, 1, (.c (.int .i64 (.lit 25)))), (1, 1, (.c (.int .i64 (.lit 7)))), (2, 1, (.c (.int .i64 (.lit 5))))])), none⟩, ⟨(some 12), (.p (.build [(.int .i64 (.lit 0)), (.int .i64 (.lit 0)), (.int .i64 (.lit 0))] [(0, 1, (.c (.int .i64 (.lit 7)))), (1, 1, (.c (.int .i64 (.lit 5)))), (2, 1, (.c (.int .i64 (.lit 0))))])), none⟩, ⟨(some 13), (.mkArr 3 2 [(.int .i64 (.lit 0)), (.int .i64 (.lit 0)), (.int .i64 (.lit 0))] [(0, 3, (.t 11)), (3, 3, (.t 12))]), none⟩, ⟨(some 2), (.p (.mv (.t 13))), none⟩, ⟨(some 3), (.p (.mv (.c (.int .i64 (.lit 12))))), none⟩])
 .ret)
 (.seq (.reg [⟨(some 15), (.p (.bin 0 .eql (.t 4) (.c (.int .u8 (.lit 66))))), none⟩, ⟨(some 14), (.p (.mv (.t 15))), none⟩])
 (.cond (.t 14) (.seq (.reg [⟨(some 16), (.p (.build [(.int .i64 (.lit 0)), (.int .i64 (.lit 0)), (.int .i64 (.lit 0))] [(0, 1, (.c (.int .i64 (.lit 31)))), (1, 1, (.c (.int .i64 (.lit 1)))), (2, 1, (.c (.int .i64 (.lit 12))))])), none⟩, ⟨(some 17), (.p (.build [(.int .i64 (.lit 0)), (.int .i64 (.lit 0)), (.int .i64 (.lit 0))] [(0, 1, (.c (.int .i64 (.lit 7)))), (1, 1, (.c (.int .i64 (.lit 1)))), (2, 1, (.c (.int .i64 (.lit 11))))])), none⟩, ⟨(some 18), (.p (.build [(.int .i64 (.lit 0)), (.int .i64 (.lit 0)), (.int .i64 (.lit 0))] [(0, 1, (.c (.int .i64 (.lit 25)))), (1, 1, (.c (.int .i64 (.lit 6)))), (2, 1, (.c (.int .i64 (.lit 5))))])), none⟩, ⟨(some 19), (.p (.build [(.int .i64 (.lit 0)), (.int .i64 (.lit 0)), (.int .i64 (.lit 0))] [(0, 1, (.c (.int .i64 (.lit 8)))), (1, 1, (.c (.int .i64 (.lit 4)))), (2, 1, (.c (.int .i64 (.lit 1))))])), none⟩, ⟨(some 20), (.mkArr 3 4 [(.int .i64 (.lit 0)), (.int .i64 (.lit 0)), (.int .i64 (.lit 0))] [(0, 3, (.t 16)), (3, 3, (.t 17)), (6, 3, (.t 18)), (9, 3, (.t 19))]), none⟩, ⟨(some 2), (.p (.mv (.t 20))), none⟩, ⟨(some 3), (.p (.mv (.c (.int .i64 (.lit 13))))), none⟩])
 .ret)
 (.seq (.reg [⟨(some 22), (.p (.bin 0 .eql (.t 4) (.c (.int .u8 (.lit 85))))), none⟩, ⟨(some 21), (.p (.mv (.t 22))), none⟩])
 (.cond (.t 21) (.seq (.reg [⟨(some 23), (.p (.build [(.int .i64 (.lit 0)), (.int .i64 (.lit 0)), (.int .i64 (.lit 0))] [(0, 1, (.c (.int .i64 (.lit 12)))), (1, 1, (.c (.int .i64 (.lit 20)))), (2, 1, (.c (.int .i64 (.lit 12))))])), none⟩, ⟨(some 24), (.mkArr 3 1 [(.int .i64 (.lit 0)), (.int .i64 (.lit 0)), (.int .i64 (.lit 0))] [(0, 3, (.t 23))]), none⟩, ⟨(some 2), (.p (.mv (.t 24))), none⟩, ⟨(some 3), (.p (.mv (.c (.int .i64 (.lit 32))))), none⟩])
 .ret)
 (.seq (.reg [⟨(some 26), (.p (.bin 0 .eql (.t 4) (.c (.int .u8 (.lit 74))))), none⟩, ⟨(some 25), (.p (.mv (.t 26))), none⟩])
 (.cond (.t 25) (.seq (.reg [⟨(some 27), (.p (.build [(.int .i64 (.lit 0)), (.int .i64 (.lit 0)), (.int .i64 (.lit 0))] [(0, 1, (.c (.int .i64 (.lit 31)))), (1, 1, (.c (.int .i64 (.lit 1)))), (2, 1, (.c (.int .i64 (.lit 20))))])), none⟩, ⟨(some 28), (.p (.build [(.int .i64 (.lit 0)), (.int .i64 (.lit 0)), (.int .i64 (.lit 0))] [(0, 1, (.c (.int .i64 (.lit 12)))), (1, 1, (.c (.int .i64 (.lit 8)))), (2, 1, (.c (.int .i64 (.lit 12))))])), none⟩, ⟨(some 29), (.p (.build [(.int .i64 (.lit 0)), (.int .i64 (.lit 0)), (.int .i64 (.lit 0))] [(0, 1, (.c (.int .i64 (.lit 20)))), (1, 1, (.c (.int .i64 (.lit 1)))), (2, 1, (.c (.int .i64 (.lit 11))))])), none⟩, ⟨(some 30), (.p (.build [(.int .i64 (.lit 0)), (.int .i64 (.lit 0)), (.int .i64 (.lit 0))] [(0, 1, (.c (.int .i64 (.lit 21)))), (1, 1, (.c (.int .i64 (.lit 10)))), (2, 1, (.c (.int .i64 (.lit 1))))])), none⟩, ⟨(some 31), (.mkArr 3 4 [(.int .i64 (.lit 0)), (.int .i64 (.lit 0)), (.int .i64 (.lit 0))] [(0, 3, (.t 27)), (3, 3, (.t 28)), (6, 3, (.t 29)), (9, 3, (.t 30))]), none⟩, ⟨(some 2), (.p (.mv (.t 31))), none⟩, ⟨(some 3), (.p (.mv (.c (.int .i64 (.lit 21))))), none⟩])
 .ret)
 .skip))))))))))))
 (.seq (.reg [⟨(some 2), (.p (.mv (.c .nilSlice))), none⟩, ⟨(some 3), (.p (.mv (.c (.int .i64 (.lit 0))))), none⟩])
 .ret)))⟩
def F : Nat → Option AFunc
  | 3 => some af3
  | 4 => some af4
  | 5 => some af5
  | 6 => some af6
  | 7 => some af7
  | 8 => some af8
  | 9 => some af9
  | 10 => some af10
  | 11 => some af11
  | 12 => some af12
  | 13 => some af13
  | 14 => some af14
  | 15 => some af15
  | 16 => some af16
  | 17 => some af17
  | 18 => some af18
  | 19 => some af19
  | 20 => some af20
  | 21 => some af21
  | 22 => some af22
  | 23 => some af23
  | 24 => some af24
  | 25 => some af25
  | 26 => some af26
  | 27 => some af27
  | 28 => some af28
  | 29 => some af29
  | 30 => some af30
  | 31 => some af31
  | 32 => some af32
  | 33 => some af33
  | 34 => some af34
  | 35 => some af35
  | 36 => some af36
  | 37 => some af37
  | 38 => some af38
  | 39 => some af39
  | 40 => some af40
  | 41 => some af41
  | 42 => some af42
  | 43 => some af43
  | 44 => some af44
  | 45 => some af45
  | 46 => some af46
  | 47 => some af47
  | 48 => some af48
  | 49 => some af49
  | 50 => some af50
  | _ => none
theorem cf3 : cFunc Try.prog 3 = some af3 := by kernel_rfl
theorem cf4 : cFunc Try.prog 4 = some af4 := by kernel_rfl
theorem cf5 : cFunc Try.prog 5 = some af5 := by kernel_rfl
theorem cf6 : cFunc Try.prog 6 = some af6 := by kernel_rfl
theorem cf7 : cFunc Try.prog 7 = some af7 := by kernel_rfl
theorem cf8 : cFunc Try.prog 8 = some af8 := by kernel_rfl
theorem cf9 : cFunc Try.prog 9 = some af9 := by kernel_rfl
theorem cf10 : cFunc Try.prog 10 = some af10 := by kernel_rfl
theorem cf11 : cFunc Try.prog 11 = some af11 := by kernel_rfl
theorem cf12 : cFunc Try.prog 12 = some af12 := by kernel_rfl
theorem cf13 : cFunc Try.prog 13 = some af13 := by kernel_rfl
theorem cf14 : cFunc Try.prog 14 = some af14 := by kernel_rfl
theorem cf15 : cFunc Try.prog 15 = some af15 := by kernel_rfl
theorem cf16 : cFunc Try.prog 16 = some af16 := by kernel_rfl
theorem cf17 : cFunc Try.prog 17 = some af17 := by kernel_rfl
theorem cf18 : cFunc Try.prog 18 = some af18 := by kernel_rfl
theorem cf19 : cFunc Try.prog 19 = some af19 := by kernel_rfl
theorem cf20 : cFunc Try.prog 20 = some af20 := by kernel_rfl
theorem cf21 : cFunc Try.prog 21 = some af21 := by kernel_rfl
theorem cf22 : cFunc Try.prog 22 = some af22 := by kernel_rfl
theorem cf23 : cFunc Try.prog 23 = some af23 := by kernel_rfl
theorem cf24 : cFunc Try.prog 24 = some af24 := by kernel_rfl
theorem cf25 : cFunc Try.prog 25 = some af25 := by kernel_rfl
theorem cf26 : cFunc Try.prog 26 = some af26 := by kernel_rfl
theorem cf27 : cFunc Try.prog 27 = some af27 := by kernel_rfl
theorem cf28 : cFunc Try.prog 28 = some af28 := by kernel_rfl
theorem cf29 : cFunc Try.prog 29 = some af29 := by kernel_rfl
theorem cf30 : cFunc Try.prog 30 = some af30 := by kernel_rfl
theorem cf31 : cFunc Try.prog 31 = some af31 := by kernel_rfl
theorem cf32 : cFunc Try.prog 32 = some af32 := by kernel_rfl
theorem cf33 : cFunc Try.prog 33 = some af33 := by kernel_rfl
theorem cf34 : cFunc Try.prog 34 = some af34 := by kernel_rfl
theorem cf35 : cFunc Try.prog 35 = some af35 := by kernel_rfl
theorem cf36 : cFunc Try.prog 36 = some af36 := by kernel_rfl
theorem cf37 : cFunc Try.prog 37 = some af37 := by kernel_rfl
theorem cf38 : cFunc Try.prog 38 = some af38 := by kernel_rfl
theorem cf39 : cFunc Try.prog 39 = some af39 := by kernel_rfl
theorem cf40 : cFunc Try.prog 40 = some af40 := by kernel_rfl
theorem cf41 : cFunc Try.prog 41 = some af41 := by kernel_rfl
theorem cf42 : cFunc Try.prog 42 = some af42 := by kernel_rfl
theorem cf43 : cFunc Try.prog 43 = some af43 := by kernel_rfl
theorem cf44 : cFunc Try.prog 44 = some af44 := by kernel_rfl
theorem cf45 : cFunc Try.prog 45 = some af45 := by kernel_rfl
theorem cf46 : cFunc Try.prog 46 = some af46 := by kernel_rfl
theorem cf47 : cFunc Try.prog 47 = some af47 := by kernel_rfl
theorem cf48 : cFunc Try.prog 48 = some af48 := by kernel_rfl
theorem cf49 : cFunc Try.prog 49 = some af49 := by kernel_rfl
theorem cf50 : cFunc Try.prog 50 = some af50 := by kernel_rfl
theorem hF : ∀ f af, F f = some af → cFunc Try.prog f = some af := by
  intro f af h
  unfold F at h
  split at h
  · cases h; exact cf3
  · cases h; exact cf4
  · cases h; exact cf5
  · cases h; exact cf6
  · cases h; exact cf7
  · cases h; exact cf8
  · cases h; exact cf9
  · cases h; exact cf10
  · cases h; exact cf11
  · cases h; exact cf12
  · cases h; exact cf13
  · cases h; exact cf14
  · cases h; exact cf15
  · cases h; exact cf16
  · cases h; exact cf17
  · cases h; exact cf18
  · cases h; exact cf19
  · cases h; exact cf20
  · cases h; exact cf21
  · cases h; exact cf22
  · cases h; exact cf23
  · cases h; exact cf24
  · cases h; exact cf25
  · cases h; exact cf26
  · cases h; exact cf27
  · cases h; exact cf28
  · cases h; exact cf29
  · cases h; exact cf30
  · cases h; exact cf31
  · cases h; exact cf32
  · cases h; exact cf33
  · cases h; exact cf34
  · cases h; exact cf35
  · cases h; exact cf36
  · cases h; exact cf37
  · cases h; exact cf38
  · cases h; exact cf39
  · cases h; exact cf40
  · cases h; exact cf41
  · cases h; exact cf42
  · cases h; exact cf43
  · cases h; exact cf44
  · cases h; exact cf45
  · cases h; exact cf46
  · cases h; exact cf47
  · cases h; exact cf48
  · cases h; exact cf49
  · cases h; exact cf50
  · cases h
theorem mixed : Try.prog.follows .mixedOrders = true := Try.checked.mixed
def doorH : Hp := hpE
theorem doorH_ok : doorOK doorH = true := by kernel_rfl
def G : Nat → Option Nat := fun _ => none
theorem G_lt : ∀ g id, G g = some id → id < doorH.sz := fun g id h => by cases h
end Go.Proofs.Ytagaclifeoiepab.aluGoes

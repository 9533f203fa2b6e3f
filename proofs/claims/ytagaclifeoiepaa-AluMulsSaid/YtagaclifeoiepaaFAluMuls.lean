/- The functions that AluMuls comes to, as the symbolic machine runs them, each held against the program's. No condition. -/
import Derived.Test.YtagaclifeoiepaaRows
import Derived.Test.YtagaclifeoiepaaSxOpen
namespace Go.Proofs.Ytagaclifeoiepaa.aluMuls
open Go.Sx
set_option maxRecDepth 100000
/- corral/corrallaw4.AluMuls -/
def af7 : AFunc := ⟨95, [.t 4],
 (.seq (.reg [⟨(some 4), (.p (.mv (.c (.bool (.lit false))))), none⟩])
 (.seq (.reg [⟨(some 13), (.call (.f 29) []), none⟩, ⟨(some 5), (.p (.mv (.t 13))), none⟩])
 (.seq (.seq (.reg [⟨(some 14), (.p (.mv (.t 5))), none⟩, ⟨(some 15), (.p (.un .not (.t 14))), none⟩])
 (.cond (.t 15) (.seq (.reg [⟨(some 4), (.p (.mv (.c (.bool (.lit false))))), none⟩])
 .ret)
 .skip))
 (.seq (.reg [⟨(some 16), (.p (.mv (.t 0))), none⟩, ⟨(some 17), (.p (.mv (.t 1))), none⟩, ⟨(some 18), (.call (.f 30) [(.t 16), (.t 17)]), none⟩, ⟨(some 6), (.p (.mv (.t 18))), none⟩])
 (.seq (.reg [⟨(some 19), (.p (.mv (.t 6))), none⟩, ⟨(some 20), (.p (.idxSl 1 (.t 19) (.c (.int .i64 (.lit 0))))), none⟩, ⟨(some 21), (.load false 1 (.t 20)), none⟩, ⟨(some 7), (.p (.mv (.t 21))), none⟩])
 (.seq (.reg [⟨(some 22), (.p (.mv (.t 6))), none⟩, ⟨(some 23), (.p (.idxSl 1 (.t 22) (.c (.int .i64 (.lit 1))))), none⟩, ⟨(some 24), (.load false 1 (.t 23)), none⟩, ⟨(some 8), (.p (.mv (.t 24))), none⟩])
 (.seq (.reg [⟨(some 25), (.p (.mv (.t 6))), none⟩, ⟨(some 26), (.p (.idxSl 1 (.t 25) (.c (.int .i64 (.lit 2))))), none⟩, ⟨(some 27), (.load false 1 (.t 26)), none⟩, ⟨(some 9), (.p (.mv (.t 27))), none⟩])
 (.seq (.reg [⟨(some 28), (.p (.mv (.t 6))), none⟩, ⟨(some 29), (.p (.idxSl 1 (.t 28) (.c (.int .i64 (.lit 3))))), none⟩, ⟨(some 30), (.load false 1 (.t 29)), none⟩, ⟨(some 10), (.p (.mv (.t 30))), none⟩])
 (.seq (.reg [⟨(some 31), (.p (.mv (.t 0))), none⟩, ⟨(some 32), (.p (.conv .u64 (.t 31))), none⟩, ⟨(some 33), (.p (.mv (.t 1))), none⟩, ⟨(some 34), (.p (.conv .u64 (.t 33))), none⟩, ⟨(some 35), (.p (.bin 0 .mul (.t 32) (.t 34))), none⟩, ⟨(some 11), (.p (.mv (.t 35))), none⟩])
 (.seq (.seq (.reg [⟨(some 36), (.p (.mv (.t 7))), none⟩, ⟨(some 37), (.p (.mv (.t 11))), none⟩, ⟨(some 38), (.p (.conv .u32 (.t 37))), none⟩, ⟨(some 39), (.p (.bin 0 .neq (.t 36) (.t 38))), none⟩, ⟨(some 40), (.p (.mv (.t 39))), none⟩, ⟨(some 41), (.p (.mv (.t 10))), (some (40, false))⟩, ⟨(some 42), (.p (.mv (.t 11))), (some (40, false))⟩, ⟨(some 43), (.p (.bin 0 .shr (.t 42) (.c (.int .u64 (.lit 32))))), (some (40, false))⟩, ⟨(some 44), (.p (.conv .u32 (.t 43))), (some (40, false))⟩, ⟨(some 45), (.p (.bin 0 .neq (.t 41) (.t 44))), (some (40, false))⟩, ⟨(some 46), (.pick (.t 40) (.c (.bool (.lit true))) (.t 45)), none⟩])
 (.cond (.t 46) (.seq (.reg [⟨(some 4), (.p (.mv (.c (.bool (.lit false))))), none⟩])
 .ret)
 .skip))
 (.seq (.reg [⟨(some 47), (.p (.mv (.t 10))), none⟩, ⟨(some 12), (.p (.mv (.t 47))), none⟩])
 (.seq (.seq (.reg [⟨(some 48), (.p (.mv (.t 0))), none⟩, ⟨(some 49), (.p (.bin 0 .shr (.t 48) (.c (.int .u64 (.lit 31))))), none⟩, ⟨(some 50), (.p (.bin 0 .eql (.t 49) (.c (.int .u32 (.lit 1))))), none⟩])
 (.cond (.t 50) (.reg [⟨(some 51), (.p (.mv (.t 12))), none⟩, ⟨(some 52), (.p (.mv (.t 1))), none⟩, ⟨(some 53), (.p (.bin 0 .sub (.t 51) (.t 52))), none⟩, ⟨(some 12), (.p (.mv (.t 53))), none⟩])
 .skip))
 (.seq (.seq (.reg [⟨(some 54), (.p (.mv (.t 9))), none⟩, ⟨(some 55), (.p (.mv (.t 12))), none⟩, ⟨(some 56), (.p (.bin 0 .neq (.t 54) (.t 55))), none⟩])
 (.cond (.t 56) (.seq (.reg [⟨(some 4), (.p (.mv (.c (.bool (.lit false))))), none⟩])
 .ret)
 .skip))
 (.seq (.seq (.reg [⟨(some 57), (.p (.mv (.t 1))), none⟩, ⟨(some 58), (.p (.bin 0 .shr (.t 57) (.c (.int .u64 (.lit 31))))), none⟩, ⟨(some 59), (.p (.bin 0 .eql (.t 58) (.c (.int .u32 (.lit 1))))), none⟩])
 (.cond (.t 59) (.reg [⟨(some 60), (.p (.mv (.t 12))), none⟩, ⟨(some 61), (.p (.mv (.t 0))), none⟩, ⟨(some 62), (.p (.bin 0 .sub (.t 60) (.t 61))), none⟩, ⟨(some 12), (.p (.mv (.t 62))), none⟩])
 .skip))
 (.seq (.draw [(⟨(some 63), (.p (.mv (.t 5))), none⟩, []), (⟨(some 64), (.p (.mv (.t 63))), none⟩, []), (⟨(some 65), (.p (.mv (.t 8))), (some (64, true))⟩, []), (⟨(some 66), (.p (.mv (.t 12))), (some (64, true))⟩, []), (⟨(some 67), (.p (.bin 0 .eql (.t 65) (.t 66))), (some (64, true))⟩, []), (⟨(some 68), (.pick (.t 64) (.t 67) (.c (.bool (.lit false)))), none⟩, []), (⟨(some 69), (.p (.mv (.t 68))), none⟩, []), (⟨(some 70), (.p (.mv (.t 6))), (some (69, true))⟩, []), (⟨(some 71), (.p (.idxSl 1 (.t 70) (.c (.int .i64 (.lit 4))))), (some (69, true))⟩, []), (⟨(some 72), (.load false 1 (.t 71)), (some (69, true))⟩, []), (⟨(some 73), (.p (.mv (.t 1))), (some (69, true))⟩, []), (⟨(some 74), (.p (.bin 0 .mul (.t 72) (.t 73))), (some (69, true))⟩, []), (⟨(some 75), (.p (.mv (.t 6))), (some (69, true))⟩, []), (⟨(some 76), (.p (.idxSl 1 (.t 75) (.c (.int .i64 (.lit 6))))), (some (69, true))⟩, []), (⟨(some 77), (.load false 1 (.t 76)), (some (69, true))⟩, []), (⟨(some 78), (.p (.bin 0 .add (.t 74) (.t 77))), (some (69, true))⟩, []), (⟨(some 79), (.p (.mv (.t 0))), (some (69, true))⟩, []), (⟨(some 80), (.p (.bin 0 .eql (.t 78) (.t 79))), (some (69, true))⟩, []), (⟨(some 81), (.pick (.t 69) (.t 80) (.c (.bool (.lit false)))), none⟩, []), (⟨(some 82), (.p (.mv (.t 81))), none⟩, []), (⟨(some 83), (.p (.mv (.t 6))), (some (82, true))⟩, []), (⟨(some 84), (.p (.idxSl 1 (.t 83) (.c (.int .i64 (.lit 5))))), (some (82, true))⟩, []), (⟨(some 85), (.load false 1 (.t 84)), (some (82, true))⟩, []), (⟨(some 86), (.p (.mv (.t 1))), (some (82, true))⟩, []), (⟨(some 87), (.p (.bin 0 .mul (.t 85) (.t 86))), (some (82, true))⟩, []), (⟨(some 88), (.p (.mv (.t 6))), (some (82, true))⟩, []), (⟨(some 89), (.p (.idxSl 1 (.t 88) (.c (.int .i64 (.lit 7))))), (some (82, true))⟩, []), (⟨(some 90), (.load false 1 (.t 89)), (some (82, true))⟩, []), (⟨(some 91), (.p (.bin 0 .add (.t 87) (.t 90))), (some (82, true))⟩, []), (⟨(some 92), (.p (.mv (.t 0))), (some (82, true))⟩, []), (⟨(some 93), (.p (.bin 0 .eql (.t 91) (.t 92))), (some (82, true))⟩, []), (⟨(some 94), (.pick (.t 82) (.t 93) (.c (.bool (.lit false)))), none⟩, []), (⟨(some 4), (.p (.mv (.t 94))), none⟩, [])])
 .ret)))))))))))))))⟩
/- corral/corrallaw4.first -/
def af29 : AFunc := ⟨29, [.t 0],
 (.seq (.reg [⟨(some 0), (.p (.mv (.c (.bool (.lit false))))), none⟩])
 (.seq (.reg [⟨(some 6), (.call (.f 31) [(.c (.int .i64 (.lit 35))), (.c (.int .u32 (.lit 2147483648))), (.c (.int .u32 (.lit 33)))]), none⟩, ⟨(some 5), (.p (.mv (.t 6))), none⟩, ⟨(some 7), (.p (.extract 0 (.t 5))), none⟩, ⟨(some 8), (.p (.extract 1 (.t 5))), none⟩, ⟨(some 1), (.p (.mv (.t 7))), none⟩, ⟨(some 2), (.p (.mv (.t 8))), none⟩])
 (.seq (.reg [⟨(some 10), (.call (.f 32) [(.c (.int .i64 (.lit 67))), (.c (.int .u32 (.lit 4294967295))), (.c (.int .u32 (.lit 1)))]), none⟩, ⟨(some 9), (.p (.mv (.t 10))), none⟩, ⟨(some 11), (.p (.extract 0 (.t 9))), none⟩, ⟨(some 12), (.p (.extract 1 (.t 9))), none⟩, ⟨(some 3), (.p (.mv (.t 11))), none⟩, ⟨(some 4), (.p (.mv (.t 12))), none⟩])
 (.seq (.reg [⟨(some 13), (.p (.mv (.t 1))), none⟩, ⟨(some 14), (.p (.bin 0 .eql (.t 13) (.c (.int .u32 (.lit 3221225472))))), none⟩, ⟨(some 15), (.p (.mv (.t 14))), none⟩, ⟨(some 16), (.p (.mv (.t 2))), (some (15, true))⟩, ⟨(some 17), (.pick (.t 15) (.t 16) (.c (.bool (.lit false)))), none⟩, ⟨(some 18), (.p (.mv (.t 17))), none⟩, ⟨(some 19), (.call (.f 34) [(.c (.int .i64 (.lit 11))), (.c (.int .u32 (.lit 128)))]), (some (18, true))⟩, ⟨(some 20), (.p (.bin 0 .eql (.t 19) (.c (.int .u32 (.lit 4294967168))))), (some (18, true))⟩, ⟨(some 21), (.pick (.t 18) (.t 20) (.c (.bool (.lit false)))), none⟩, ⟨(some 22), (.p (.mv (.t 21))), none⟩, ⟨(some 23), (.p (.mv (.t 3))), (some (22, true))⟩, ⟨(some 24), (.p (.bin 0 .eql (.t 23) (.c (.int .u32 (.lit 1))))), (some (22, true))⟩, ⟨(some 25), (.pick (.t 22) (.t 24) (.c (.bool (.lit false)))), none⟩, ⟨(some 26), (.p (.mv (.t 25))), none⟩, ⟨(some 27), (.p (.mv (.t 4))), (some (26, true))⟩, ⟨(some 28), (.pick (.t 26) (.t 27) (.c (.bool (.lit false)))), none⟩, ⟨(some 0), (.p (.mv (.t 28))), none⟩])
 .ret))))⟩
/- corral/corrallaw4.func2 -/
def af30 : AFunc := ⟨25, [.t 4],
 (.seq (.reg [⟨(some 4), (.p (.mv (.c .nilSlice))), none⟩])
 (.seq (.reg [⟨(some 5), (.p (.mv (.c .nilSlice))), none⟩])
 (.seq (.seq (.reg [⟨(some 6), (.p (.mv (.c (.int .i64 (.lit 51))))), none⟩])
 (.block 0 (.loop (.seq (.seq (.reg [⟨(some 9), (.p (.mv (.t 6))), none⟩, ⟨(some 10), (.p (.bin 0 .leq (.t 9) (.c (.int .i64 (.lit 58))))), none⟩])
 (.cond (.t 10) .skip
 (.exit 0)))
 (.seq (.block 1 (.seq (.reg [⟨(some 14), (.p (.mv (.t 6))), none⟩, ⟨(some 15), (.p (.mv (.t 0))), none⟩, ⟨(some 16), (.p (.mv (.t 1))), none⟩, ⟨(some 17), (.call (.f 31) [(.t 14), (.t 15), (.t 16)]), none⟩, ⟨(some 13), (.p (.mv (.t 17))), none⟩, ⟨(some 18), (.p (.extract 0 (.t 13))), none⟩, ⟨(some 19), (.p (.extract 1 (.t 13))), none⟩, ⟨(some 7), (.p (.mv (.t 18))), none⟩, ⟨(some 8), (.p (.mv (.t 19))), none⟩])
 (.reg [⟨(some 20), (.p (.mv (.t 5))), none⟩, ⟨(some 21), (.p (.mv (.t 7))), none⟩, ⟨(some 22), (.mkArr 1 1 [(.int .u32 (.lit 0))] [(0, 1, (.t 21))]), none⟩, ⟨(some 23), (.append 1 4 (.t 20) (.t 22)), none⟩, ⟨(some 5), (.p (.mv (.t 23))), none⟩])))
 (.reg [⟨(some 11), (.p (.mv (.t 6))), none⟩, ⟨(some 12), (.p (.bin 0 .add (.t 11) (.c (.int .i64 (.lit 1))))), none⟩, ⟨(some 6), (.p (.mv (.t 12))), none⟩]))))))
 (.seq (.reg [⟨(some 24), (.p (.mv (.t 5))), none⟩, ⟨(some 4), (.p (.mv (.t 24))), none⟩])
 .ret))))⟩
/- corral/alu.Do -/
def af31 : AFunc := ⟨112, [.t 6, .t 7],
 (.seq (.reg [⟨(some 6), (.p (.mv (.c (.int .u32 (.lit 0))))), none⟩, ⟨(some 7), (.p (.mv (.c (.bool (.lit false))))), none⟩])
 (.seq (.seq (.reg [⟨(some 8), (.p (.mv (.t 0))), none⟩])
 (.block 0 (.seq (.seq (.reg [⟨(some 10), (.p (.bin 0 .eql (.t 8) (.c (.int .i64 (.lit 28))))), none⟩, ⟨(some 9), (.p (.mv (.t 10))), none⟩])
 (.cond (.t 9) .skip
 (.reg [⟨(some 11), (.p (.bin 0 .eql (.t 8) (.c (.int .i64 (.lit 19))))), none⟩, ⟨(some 9), (.p (.mv (.t 11))), none⟩])))
 (.cond (.t 9) (.seq (.reg [⟨(some 12), (.p (.mv (.t 1))), none⟩, ⟨(some 13), (.p (.mv (.t 2))), none⟩, ⟨(some 14), (.p (.bin 0 .add (.t 12) (.t 13))), none⟩, ⟨(some 6), (.p (.mv (.t 14))), none⟩, ⟨(some 7), (.p (.mv (.c (.bool (.lit true))))), none⟩])
 .ret)
 (.seq (.reg [⟨(some 16), (.p (.bin 0 .eql (.t 8) (.c (.int .i64 (.lit 29))))), none⟩, ⟨(some 15), (.p (.mv (.t 16))), none⟩])
 (.cond (.t 15) (.seq (.reg [⟨(some 17), (.p (.mv (.t 1))), none⟩, ⟨(some 18), (.p (.mv (.t 2))), none⟩, ⟨(some 19), (.p (.bin 0 .sub (.t 17) (.t 18))), none⟩, ⟨(some 6), (.p (.mv (.t 19))), none⟩, ⟨(some 7), (.p (.mv (.c (.bool (.lit true))))), none⟩])
 .ret)
 (.seq (.seq (.reg [⟨(some 21), (.p (.bin 0 .eql (.t 8) (.c (.int .i64 (.lit 30))))), none⟩, ⟨(some 20), (.p (.mv (.t 21))), none⟩])
 (.cond (.t 20) .skip
 (.reg [⟨(some 22), (.p (.bin 0 .eql (.t 8) (.c (.int .i64 (.lit 25))))), none⟩, ⟨(some 20), (.p (.mv (.t 22))), none⟩])))
 (.cond (.t 20) (.seq (.reg [⟨(some 23), (.p (.mv (.t 1))), none⟩, ⟨(some 24), (.p (.mv (.t 2))), none⟩, ⟨(some 25), (.p (.bin 0 .and (.t 24) (.c (.int .u32 (.lit 31))))), none⟩, ⟨(some 26), (.p (.conv .i64 (.t 25))), none⟩, ⟨(some 27), (.call (.f 58) [(.t 23), (.t 26)]), none⟩, ⟨(some 6), (.p (.mv (.t 27))), none⟩, ⟨(some 7), (.p (.mv (.c (.bool (.lit true))))), none⟩])
 .ret)
 (.seq (.seq (.reg [⟨(some 29), (.p (.bin 0 .eql (.t 8) (.c (.int .i64 (.lit 31))))), none⟩, ⟨(some 28), (.p (.mv (.t 29))), none⟩])
 (.cond (.t 28) .skip
 (.reg [⟨(some 30), (.p (.bin 0 .eql (.t 8) (.c (.int .i64 (.lit 20))))), none⟩, ⟨(some 28), (.p (.mv (.t 30))), none⟩])))
 (.cond (.t 28) (.seq (.reg [⟨(some 31), (.p (.mv (.t 1))), none⟩, ⟨(some 32), (.p (.mv (.t 2))), none⟩, ⟨(some 33), (.call (.f 60) [(.t 31), (.t 32), (.c (.bool (.lit true)))]), none⟩, ⟨(some 34), (.call (.f 59) [(.t 33)]), none⟩, ⟨(some 6), (.p (.mv (.t 34))), none⟩, ⟨(some 7), (.p (.mv (.c (.bool (.lit true))))), none⟩])
 .ret)
 (.seq (.seq (.reg [⟨(some 36), (.p (.bin 0 .eql (.t 8) (.c (.int .i64 (.lit 32))))), none⟩, ⟨(some 35), (.p (.mv (.t 36))), none⟩])
 (.cond (.t 35) .skip
 (.reg [⟨(some 37), (.p (.bin 0 .eql (.t 8) (.c (.int .i64 (.lit 21))))), none⟩, ⟨(some 35), (.p (.mv (.t 37))), none⟩])))
 (.cond (.t 35) (.seq (.reg [⟨(some 38), (.p (.mv (.t 1))), none⟩, ⟨(some 39), (.p (.mv (.t 2))), none⟩, ⟨(some 40), (.call (.f 60) [(.t 38), (.t 39), (.c (.bool (.lit false)))]), none⟩, ⟨(some 41), (.call (.f 59) [(.t 40)]), none⟩, ⟨(some 6), (.p (.mv (.t 41))), none⟩, ⟨(some 7), (.p (.mv (.c (.bool (.lit true))))), none⟩])
 .ret)
 (.seq (.seq (.reg [⟨(some 43), (.p (.bin 0 .eql (.t 8) (.c (.int .i64 (.lit 33))))), none⟩, ⟨(some 42), (.p (.mv (.t 43))), none⟩])
 (.cond (.t 42) .skip
 (.reg [⟨(some 44), (.p (.bin 0 .eql (.t 8) (.c (.int .i64 (.lit 22))))), none⟩, ⟨(some 42), (.p (.mv (.t 44))), none⟩])))
 (.cond (.t 42) (.seq (.reg [⟨(some 45), (.p (.mv (.t 1))), none⟩, ⟨(some 46), (.p (.mv (.t 2))), none⟩, ⟨(some 47), (.p (.bin 0 .xor (.t 45) (.t 46))), none⟩, ⟨(some 6), (.p (.mv (.t 47))), none⟩, ⟨(some 7), (.p (.mv (.c (.bool (.lit true))))), none⟩])
 .ret)
 (.seq (.seq (.reg [⟨(some 49), (.p (.bin 0 .eql (.t 8) (.c (.int .i64 (.lit 34))))), none⟩, ⟨(some 48), (.p (.mv (.t 49))), none⟩])
 (.cond (.t 48) .skip
 (.reg [⟨(some 50), (.p (.bin 0 .eql (.t 8) (.c (.int .i64 (.lit 26))))), none⟩, ⟨(some 48), (.p (.mv (.t 50))), none⟩])))
 (.cond (.t 48) (.seq (.reg [⟨(some 51), (.p (.mv (.t 1))), none⟩, ⟨(some 52), (.p (.mv (.t 2))), none⟩, ⟨(some 53), (.p (.bin 0 .and (.t 52) (.c (.int .u32 (.lit 31))))), none⟩, ⟨(some 54), (.p (.conv .i64 (.t 53))), none⟩, ⟨(some 55), (.call (.f 61) [(.t 51), (.t 54), (.c (.bool (.lit false)))]), none⟩, ⟨(some 6), (.p (.mv (.t 55))), none⟩, ⟨(some 7), (.p (.mv (.c (.bool (.lit true))))), none⟩])
 .ret)
 (.seq (.seq (.reg [⟨(some 57), (.p (.bin 0 .eql (.t 8) (.c (.int .i64 (.lit 35))))), none⟩, ⟨(some 56), (.p (.mv (.t 57))), none⟩])
 (.cond (.t 56) .skip
 (.reg [⟨(some 58), (.p (.bin 0 .eql (.t 8) (.c (.int .i64 (.lit 27))))), none⟩, ⟨(some 56), (.p (.mv (.t 58))), none⟩])))
 (.cond (.t 56) (.seq (.reg [⟨(some 59), (.p (.mv (.t 1))), none⟩, ⟨(some 60), (.p (.mv (.t 2))), none⟩, ⟨(some 61), (.p (.bin 0 .and (.t 60) (.c (.int .u32 (.lit 31))))), none⟩, ⟨(some 62), (.p (.conv .i64 (.t 61))), none⟩, ⟨(some 63), (.call (.f 61) [(.t 59), (.t 62), (.c (.bool (.lit true)))]), none⟩, ⟨(some 6), (.p (.mv (.t 63))), none⟩, ⟨(some 7), (.p (.mv (.c (.bool (.lit true))))), none⟩])
 .ret)
 (.seq (.seq (.reg [⟨(some 65), (.p (.bin 0 .eql (.t 8) (.c (.int .i64 (.lit 36))))), none⟩, ⟨(some 64), (.p (.mv (.t 65))), none⟩])
 (.cond (.t 64) .skip
 (.reg [⟨(some 66), (.p (.bin 0 .eql (.t 8) (.c (.int .i64 (.lit 23))))), none⟩, ⟨(some 64), (.p (.mv (.t 66))), none⟩])))
 (.cond (.t 64) (.seq (.reg [⟨(some 67), (.p (.mv (.t 1))), none⟩, ⟨(some 68), (.p (.mv (.t 2))), none⟩, ⟨(some 69), (.p (.bin 0 .or (.t 67) (.t 68))), none⟩, ⟨(some 6), (.p (.mv (.t 69))), none⟩, ⟨(some 7), (.p (.mv (.c (.bool (.lit true))))), none⟩])
 .ret)
 (.seq (.seq (.reg [⟨(some 71), (.p (.bin 0 .eql (.t 8) (.c (.int .i64 (.lit 37))))), none⟩, ⟨(some 70), (.p (.mv (.t 71))), none⟩])
 (.cond (.t 70) .skip
 (.reg [⟨(some 72), (.p (.bin 0 .eql (.t 8) (.c (.int .i64 (.lit 24))))), none⟩, ⟨(some 70), (.p (.mv (.t 72))), none⟩])))
 (.cond (.t 70) (.seq (.reg [⟨(some 73), (.p (.mv (.t 1))), none⟩, ⟨(some 74), (.p (.mv (.t 2))), none⟩, ⟨(some 75), (.p (.bin 0 .and (.t 73) (.t 74))), none⟩, ⟨(some 6), (.p (.mv (.t 75))), none⟩, ⟨(some 7), (.p (.mv (.c (.bool (.lit true))))), none⟩])
 .ret)
 (.seq (.reg [⟨(some 77), (.p (.bin 0 .eql (.t 8) (.c (.int .i64 (.lit 51))))), none⟩, ⟨(some 76), (.p (.mv (.t 77))), none⟩])
 (.cond (.t 76) (.seq (.reg [⟨(some 78), (.p (.mv (.t 1))), none⟩, ⟨(some 79), (.p (.mv (.t 2))), none⟩, ⟨(some 80), (.p (.bin 0 .mul (.t 78) (.t 79))), none⟩, ⟨(some 6), (.p (.mv (.t 80))), none⟩, ⟨(some 7), (.p (.mv (.c (.bool (.lit true))))), none⟩])
 .ret)
 (.seq (.reg [⟨(some 82), (.p (.bin 0 .eql (.t 8) (.c (.int .i64 (.lit 52))))), none⟩, ⟨(some 81), (.p (.mv (.t 82))), none⟩])
 (.cond (.t 81) (.seq (.reg [⟨(some 83), (.p (.mv (.t 1))), none⟩, ⟨(some 84), (.p (.mv (.t 2))), none⟩, ⟨(some 85), (.call (.f 62) [(.t 83), (.t 84), (.c (.bool (.lit true))), (.c (.bool (.lit true)))]), none⟩, ⟨(some 6), (.p (.mv (.t 85))), none⟩, ⟨(some 7), (.p (.mv (.c (.bool (.lit true))))), none⟩])
 .ret)
 (.seq (.reg [⟨(some 87), (.p (.bin 0 .eql (.t 8) (.c (.int .i64 (.lit 53))))), none⟩, ⟨(some 86), (.p (.mv (.t 87))), none⟩])
 (.cond (.t 86) (.seq (.reg [⟨(some 88), (.p (.mv (.t 1))), none⟩, ⟨(some 89), (.p (.mv (.t 2))), none⟩, ⟨(some 90), (.call (.f 62) [(.t 88), (.t 89), (.c (.bool (.lit true))), (.c (.bool (.lit false)))]), none⟩, ⟨(some 6), (.p (.mv (.t 90))), none⟩, ⟨(some 7), (.p (.mv (.c (.bool (.lit true))))), none⟩])
 .ret)
 (.seq (.reg [⟨(some 92), (.p (.bin 0 .eql (.t 8) (.c (.int .i64 (.lit 54))))), none⟩, ⟨(some 91), (.p (.mv (.t 92))), none⟩])
 (.cond (.t 91) (.seq (.reg [⟨(some 93), (.p (.mv (.t 1))), none⟩, ⟨(some 94), (.p (.mv (.t 2))), none⟩, ⟨(some 95), (.call (.f 62) [(.t 93), (.t 94), (.c (.bool (.lit false))), (.c (.bool (.lit false)))]), none⟩, ⟨(some 6), (.p (.mv (.t 95))), none⟩, ⟨(some 7), (.p (.mv (.c (.bool (.lit true))))), none⟩])
 .ret)
 (.seq (.seq (.reg [⟨(some 97), (.p (.bin 0 .eql (.t 8) (.c (.int .i64 (.lit 55))))), none⟩, ⟨(some 96), (.p (.mv (.t 97))), none⟩])
 (.cond (.t 96) .skip
 (.reg [⟨(some 98), (.p (.bin 0 .eql (.t 8) (.c (.int .i64 (.lit 56))))), none⟩, ⟨(some 96), (.p (.mv (.t 98))), none⟩])))
 (.cond (.t 96) (.seq (.reg [⟨(some 99), (.p (.mv (.t 1))), none⟩, ⟨(some 100), (.p (.mv (.t 2))), none⟩, ⟨(some 101), (.p (.mv (.t 0))), none⟩, ⟨(some 102), (.p (.bin 0 .eql (.t 101) (.c (.int .i64 (.lit 55))))), none⟩, ⟨(some 103), (.call (.f 63) [(.t 99), (.t 100), (.t 102)]), none⟩, ⟨(some 6), (.p (.mv (.t 103))), none⟩, ⟨(some 7), (.p (.mv (.c (.bool (.lit true))))), none⟩])
 .ret)
 (.seq (.seq (.reg [⟨(some 105), (.p (.bin 0 .eql (.t 8) (.c (.int .i64 (.lit 57))))), none⟩, ⟨(some 104), (.p (.mv (.t 105))), none⟩])
 (.cond (.t 104) .skip
 (.reg [⟨(some 106), (.p (.bin 0 .eql (.t 8) (.c (.int .i64 (.lit 58))))), none⟩, ⟨(some 104), (.p (.mv (.t 106))), none⟩])))
 (.cond (.t 104) (.seq (.reg [⟨(some 107), (.p (.mv (.t 1))), none⟩, ⟨(some 108), (.p (.mv (.t 2))), none⟩, ⟨(some 109), (.p (.mv (.t 0))), none⟩, ⟨(some 110), (.p (.bin 0 .eql (.t 109) (.c (.int .i64 (.lit 57))))), none⟩, ⟨(some 111), (.call (.f 64) [(.t 107), (.t 108), (.t 110)]), none⟩, ⟨(some 6), (.p (.mv (.t 111))), none⟩, ⟨(some 7), (.p (.mv (.c (.bool (.lit true))))), none⟩])
 .ret)
 .skip))))))))))))))))))))))))))))))))))
 (.seq (.reg [⟨(some 6), (.p (.mv (.c (.int .u32 (.lit 0))))), none⟩, ⟨(some 7), (.p (.mv (.c (.bool (.lit false))))), none⟩])
 .ret)))⟩
/- corral/alu.Amo -/
def af32 : AFunc := ⟨58, [.t 6, .t 7],
 (.seq (.reg [⟨(some 4), (.box 1 (.t 1)), none⟩, ⟨(some 5), (.box 1 (.t 2)), none⟩, ⟨(some 6), (.p (.mv (.c (.int .u32 (.lit 0))))), none⟩, ⟨(some 7), (.p (.mv (.c (.bool (.lit false))))), none⟩])
 (.seq (.reg [⟨(some 9), (.p (.mkFunc 65 [] [(.t 4), (.t 5)])), none⟩, ⟨(some 8), (.p (.mv (.t 9))), none⟩])
 (.seq (.seq (.reg [⟨(some 10), (.p (.mv (.t 0))), none⟩])
 (.block 0 (.seq (.reg [⟨(some 12), (.p (.bin 0 .eql (.t 10) (.c (.int .i64 (.lit 61))))), none⟩, ⟨(some 11), (.p (.mv (.t 12))), none⟩])
 (.cond (.t 11) (.seq (.reg [⟨(some 13), (.load false 1 (.t 5)), none⟩, ⟨(some 6), (.p (.mv (.t 13))), none⟩, ⟨(some 7), (.p (.mv (.c (.bool (.lit true))))), none⟩])
 .ret)
 (.seq (.reg [⟨(some 15), (.p (.bin 0 .eql (.t 10) (.c (.int .i64 (.lit 62))))), none⟩, ⟨(some 14), (.p (.mv (.t 15))), none⟩])
 (.cond (.t 14) (.seq (.reg [⟨(some 16), (.load false 1 (.t 4)), none⟩, ⟨(some 17), (.load false 1 (.t 5)), none⟩, ⟨(some 18), (.p (.bin 0 .add (.t 16) (.t 17))), none⟩, ⟨(some 6), (.p (.mv (.t 18))), none⟩, ⟨(some 7), (.p (.mv (.c (.bool (.lit true))))), none⟩])
 .ret)
 (.seq (.reg [⟨(some 20), (.p (.bin 0 .eql (.t 10) (.c (.int .i64 (.lit 63))))), none⟩, ⟨(some 19), (.p (.mv (.t 20))), none⟩])
 (.cond (.t 19) (.seq (.reg [⟨(some 21), (.load false 1 (.t 4)), none⟩, ⟨(some 22), (.load false 1 (.t 5)), none⟩, ⟨(some 23), (.p (.bin 0 .xor (.t 21) (.t 22))), none⟩, ⟨(some 6), (.p (.mv (.t 23))), none⟩, ⟨(some 7), (.p (.mv (.c (.bool (.lit true))))), none⟩])
 .ret)
 (.seq (.reg [⟨(some 25), (.p (.bin 0 .eql (.t 10) (.c (.int .i64 (.lit 64))))), none⟩, ⟨(some 24), (.p (.mv (.t 25))), none⟩])
 (.cond (.t 24) (.seq (.reg [⟨(some 26), (.load false 1 (.t 4)), none⟩, ⟨(some 27), (.load false 1 (.t 5)), none⟩, ⟨(some 28), (.p (.bin 0 .and (.t 26) (.t 27))), none⟩, ⟨(some 6), (.p (.mv (.t 28))), none⟩, ⟨(some 7), (.p (.mv (.c (.bool (.lit true))))), none⟩])
 .ret)
 (.seq (.reg [⟨(some 30), (.p (.bin 0 .eql (.t 10) (.c (.int .i64 (.lit 65))))), none⟩, ⟨(some 29), (.p (.mv (.t 30))), none⟩])
 (.cond (.t 29) (.seq (.reg [⟨(some 31), (.load false 1 (.t 4)), none⟩, ⟨(some 32), (.load false 1 (.t 5)), none⟩, ⟨(some 33), (.p (.bin 0 .or (.t 31) (.t 32))), none⟩, ⟨(some 6), (.p (.mv (.t 33))), none⟩, ⟨(some 7), (.p (.mv (.c (.bool (.lit true))))), none⟩])
 .ret)
 (.seq (.seq (.reg [⟨(some 35), (.p (.bin 0 .eql (.t 10) (.c (.int .i64 (.lit 66))))), none⟩, ⟨(some 34), (.p (.mv (.t 35))), none⟩])
 (.cond (.t 34) .skip
 (.reg [⟨(some 36), (.p (.bin 0 .eql (.t 10) (.c (.int .i64 (.lit 68))))), none⟩, ⟨(some 34), (.p (.mv (.t 36))), none⟩])))
 (.cond (.t 34) (.seq (.reg [⟨(some 37), (.p (.mv (.t 8))), none⟩, ⟨(some 38), (.load false 1 (.t 4)), none⟩, ⟨(some 39), (.load false 1 (.t 5)), none⟩, ⟨(some 40), (.p (.mv (.t 0))), none⟩, ⟨(some 41), (.p (.bin 0 .eql (.t 40) (.c (.int .i64 (.lit 66))))), none⟩, ⟨(some 42), (.call (.f 60) [(.t 38), (.t 39), (.t 41)]), none⟩, ⟨(some 43), (.call (.t 37) [(.t 42)]), none⟩, ⟨(some 44), (.p (.extract 0 (.t 43))), none⟩, ⟨(some 45), (.p (.extract 1 (.t 43))), none⟩, ⟨(some 6), (.p (.mv (.t 44))), none⟩, ⟨(some 7), (.p (.mv (.t 45))), none⟩])
 .ret)
 (.seq (.seq (.reg [⟨(some 47), (.p (.bin 0 .eql (.t 10) (.c (.int .i64 (.lit 67))))), none⟩, ⟨(some 46), (.p (.mv (.t 47))), none⟩])
 (.cond (.t 46) .skip
 (.reg [⟨(some 48), (.p (.bin 0 .eql (.t 10) (.c (.int .i64 (.lit 69))))), none⟩, ⟨(some 46), (.p (.mv (.t 48))), none⟩])))
 (.cond (.t 46) (.seq (.reg [⟨(some 49), (.p (.mv (.t 8))), none⟩, ⟨(some 50), (.load false 1 (.t 5)), none⟩, ⟨(some 51), (.load false 1 (.t 4)), none⟩, ⟨(some 52), (.p (.mv (.t 0))), none⟩, ⟨(some 53), (.p (.bin 0 .eql (.t 52) (.c (.int .i64 (.lit 67))))), none⟩, ⟨(some 54), (.call (.f 60) [(.t 50), (.t 51), (.t 53)]), none⟩, ⟨(some 55), (.call (.t 49) [(.t 54)]), none⟩, ⟨(some 56), (.p (.extract 0 (.t 55))), none⟩, ⟨(some 57), (.p (.extract 1 (.t 55))), none⟩, ⟨(some 6), (.p (.mv (.t 56))), none⟩, ⟨(some 7), (.p (.mv (.t 57))), none⟩])
 .ret)
 .skip))))))))))))))))
 (.seq (.reg [⟨(some 6), (.p (.mv (.c (.int .u32 (.lit 0))))), none⟩, ⟨(some 7), (.p (.mv (.c (.bool (.lit false))))), none⟩])
 .ret))))⟩
/- corral/alu.Extend -/
def af34 : AFunc := ⟨24, [.t 4],
 (.seq (.reg [⟨(some 4), (.p (.mv (.c (.int .u32 (.lit 0))))), none⟩])
 (.seq (.seq (.reg [⟨(some 6), (.p (.mv (.t 0))), none⟩, ⟨(some 7), (.call (.f 68) [(.t 6)]), none⟩, ⟨(some 8), (.p (.un .not (.t 7))), none⟩])
 (.cond (.t 8) (.seq (.reg [⟨(some 4), (.p (.mv (.c (.int .u32 (.lit 0))))), none⟩])
 .ret)
 .skip))
 (.seq (.reg [⟨(some 9), (.p (.mv (.t 0))), none⟩, ⟨(some 10), (.call (.f 39) [(.t 9)]), none⟩, ⟨(some 11), (.p (.bin 0 .mul (.c (.int .i64 (.lit 8))) (.t 10))), none⟩, ⟨(some 5), (.p (.mv (.t 11))), none⟩])
 (.seq (.seq (.reg [⟨(some 12), (.p (.mv (.t 0))), none⟩, ⟨(some 13), (.p (.bin 0 .eql (.t 12) (.c (.int .i64 (.lit 11))))), none⟩, ⟨(some 14), (.p (.mv (.t 13))), none⟩, ⟨(some 15), (.p (.mv (.t 0))), (some (14, false))⟩, ⟨(some 16), (.p (.bin 0 .eql (.t 15) (.c (.int .i64 (.lit 12))))), (some (14, false))⟩, ⟨(some 17), (.pick (.t 14) (.c (.bool (.lit true))) (.t 16)), none⟩])
 (.cond (.t 17) (.seq (.reg [⟨(some 18), (.p (.mv (.t 1))), none⟩, ⟨(some 19), (.p (.mv (.t 5))), none⟩, ⟨(some 20), (.call (.f 69) [(.t 18), (.t 19)]), none⟩, ⟨(some 4), (.p (.mv (.t 20))), none⟩])
 .ret)
 .skip))
 (.seq (.reg [⟨(some 21), (.p (.mv (.t 1))), none⟩, ⟨(some 22), (.p (.mv (.t 5))), none⟩, ⟨(some 23), (.call (.f 67) [(.t 21), (.c (.int .i64 (.lit 0))), (.t 22)]), none⟩, ⟨(some 4), (.p (.mv (.t 23))), none⟩])
 .ret)))))⟩
/- corral/alu.Size -/
def af39 : AFunc := ⟨19, [.t 2],
 (.seq (.reg [⟨(some 2), (.p (.mv (.c (.int .i64 (.lit 0))))), none⟩])
 (.seq (.seq (.reg [⟨(some 3), (.p (.mv (.t 0))), none⟩])
 (.block 0 (.seq (.seq (.reg [⟨(some 5), (.p (.bin 0 .eql (.t 3) (.c (.int .i64 (.lit 11))))), none⟩, ⟨(some 4), (.p (.mv (.t 5))), none⟩])
 (.cond (.t 4) .skip
 (.seq (.reg [⟨(some 6), (.p (.bin 0 .eql (.t 3) (.c (.int .i64 (.lit 14))))), none⟩, ⟨(some 4), (.p (.mv (.t 6))), none⟩])
 (.cond (.t 4) .skip
 (.reg [⟨(some 7), (.p (.bin 0 .eql (.t 3) (.c (.int .i64 (.lit 16))))), none⟩, ⟨(some 4), (.p (.mv (.t 7))), none⟩])))))
 (.cond (.t 4) (.seq (.reg [⟨(some 2), (.p (.mv (.c (.int .i64 (.lit 1))))), none⟩])
 .ret)
 (.seq (.seq (.reg [⟨(some 9), (.p (.bin 0 .eql (.t 3) (.c (.int .i64 (.lit 12))))), none⟩, ⟨(some 8), (.p (.mv (.t 9))), none⟩])
 (.cond (.t 8) .skip
 (.seq (.reg [⟨(some 10), (.p (.bin 0 .eql (.t 3) (.c (.int .i64 (.lit 15))))), none⟩, ⟨(some 8), (.p (.mv (.t 10))), none⟩])
 (.cond (.t 8) .skip
 (.reg [⟨(some 11), (.p (.bin 0 .eql (.t 3) (.c (.int .i64 (.lit 17))))), none⟩, ⟨(some 8), (.p (.mv (.t 11))), none⟩])))))
 (.cond (.t 8) (.seq (.reg [⟨(some 2), (.p (.mv (.c (.int .i64 (.lit 2))))), none⟩])
 .ret)
 (.seq (.seq (.reg [⟨(some 13), (.p (.bin 0 .eql (.t 3) (.c (.int .i64 (.lit 13))))), none⟩, ⟨(some 12), (.p (.mv (.t 13))), none⟩])
 (.cond (.t 12) .skip
 (.seq (.reg [⟨(some 14), (.p (.bin 0 .eql (.t 3) (.c (.int .i64 (.lit 18))))), none⟩, ⟨(some 12), (.p (.mv (.t 14))), none⟩])
 (.cond (.t 12) .skip
 (.reg [⟨(some 15), (.p (.bin 0 .eql (.t 3) (.c (.int .i64 (.lit 59))))), none⟩, ⟨(some 12), (.p (.mv (.t 15))), none⟩])))))
 (.cond (.t 12) (.seq (.reg [⟨(some 2), (.p (.mv (.c (.int .i64 (.lit 4))))), none⟩])
 .ret)
 .skip))))))))
 (.seq (.seq (.reg [⟨(some 16), (.p (.mv (.t 0))), none⟩, ⟨(some 17), (.call (.f 66) [(.t 16)]), none⟩, ⟨(some 18), (.p (.bin 0 .eql (.t 17) (.c (.int .i64 (.lit 6))))), none⟩])
 (.cond (.t 18) (.seq (.reg [⟨(some 2), (.p (.mv (.c (.int .i64 (.lit 4))))), none⟩])
 .ret)
 .skip))
 (.seq (.reg [⟨(some 2), (.p (.mv (.c (.int .i64 (.lit 0))))), none⟩])
 .ret))))⟩
/- corral/word.Left -/
def af58 : AFunc := ⟨9, [.t 4],
 (.seq (.reg [⟨(some 4), (.p (.mv (.c (.int .u32 (.lit 0))))), none⟩])
 (.seq (.reg [⟨(some 5), (.p (.mv (.t 0))), none⟩, ⟨(some 6), (.p (.mv (.t 1))), none⟩, ⟨(some 7), (.p (.bin 0 .and (.t 6) (.c (.int .i64 (.lit 31))))), none⟩, ⟨(some 8), (.p (.bin 0 .shl (.t 5) (.t 7))), none⟩, ⟨(some 4), (.p (.mv (.t 8))), none⟩])
 .ret))⟩
/- corral/alu.truth -/
def af59 : AFunc := ⟨4, [.t 2],
 (.seq (.reg [⟨(some 2), (.p (.mv (.c (.int .u32 (.lit 0))))), none⟩])
 (.seq (.seq (.reg [⟨(some 3), (.p (.mv (.t 0))), none⟩])
 (.cond (.t 3) (.seq (.reg [⟨(some 2), (.p (.mv (.c (.int .u32 (.lit 1))))), none⟩])
 .ret)
 .skip))
 (.seq (.reg [⟨(some 2), (.p (.mv (.c (.int .u32 (.lit 0))))), none⟩])
 .ret)))⟩
/- corral/word.Less -/
def af60 : AFunc := ⟨16, [.t 6],
 (.seq (.reg [⟨(some 6), (.p (.mv (.c (.bool (.lit false))))), none⟩])
 (.seq (.seq (.reg [⟨(some 7), (.p (.mv (.t 2))), none⟩])
 (.cond (.t 7) (.seq (.reg [⟨(some 8), (.p (.mv (.t 0))), none⟩, ⟨(some 9), (.p (.conv .i32 (.t 8))), none⟩, ⟨(some 10), (.p (.mv (.t 1))), none⟩, ⟨(some 11), (.p (.conv .i32 (.t 10))), none⟩, ⟨(some 12), (.p (.bin 0 .lss (.t 9) (.t 11))), none⟩, ⟨(some 6), (.p (.mv (.t 12))), none⟩])
 .ret)
 .skip))
 (.seq (.reg [⟨(some 13), (.p (.mv (.t 0))), none⟩, ⟨(some 14), (.p (.mv (.t 1))), none⟩, ⟨(some 15), (.p (.bin 0 .lss (.t 13) (.t 14))), none⟩, ⟨(some 6), (.p (.mv (.t 15))), none⟩])
 .ret)))⟩
/- corral/word.Right -/
def af61 : AFunc := ⟨18, [.t 6],
 (.seq (.reg [⟨(some 6), (.p (.mv (.c (.int .u32 (.lit 0))))), none⟩])
 (.seq (.seq (.reg [⟨(some 7), (.p (.mv (.t 2))), none⟩])
 (.cond (.t 7) (.seq (.reg [⟨(some 8), (.p (.mv (.t 0))), none⟩, ⟨(some 9), (.p (.conv .i32 (.t 8))), none⟩, ⟨(some 10), (.p (.mv (.t 1))), none⟩, ⟨(some 11), (.p (.bin 0 .and (.t 10) (.c (.int .i64 (.lit 31))))), none⟩, ⟨(some 12), (.p (.bin 0 .shr (.t 9) (.t 11))), none⟩, ⟨(some 13), (.p (.conv .u32 (.t 12))), none⟩, ⟨(some 6), (.p (.mv (.t 13))), none⟩])
 .ret)
 .skip))
 (.seq (.reg [⟨(some 14), (.p (.mv (.t 0))), none⟩, ⟨(some 15), (.p (.mv (.t 1))), none⟩, ⟨(some 16), (.p (.bin 0 .and (.t 15) (.c (.int .i64 (.lit 31))))), none⟩, ⟨(some 17), (.p (.bin 0 .shr (.t 14) (.t 16))), none⟩, ⟨(some 6), (.p (.mv (.t 17))), none⟩])
 .ret)))⟩
/- corral/word.High -/
def af62 : AFunc := ⟨18, [.t 8],
 (.seq (.reg [⟨(some 8), (.p (.mv (.c (.int .u32 (.lit 0))))), none⟩])
 (.seq (.reg [⟨(some 9), (.p (.mv (.t 0))), none⟩, ⟨(some 10), (.p (.mv (.t 2))), none⟩, ⟨(some 11), (.call (.f 82) [(.t 9), (.t 10)]), none⟩, ⟨(some 12), (.p (.mv (.t 1))), none⟩, ⟨(some 13), (.p (.mv (.t 3))), none⟩, ⟨(some 14), (.call (.f 82) [(.t 12), (.t 13)]), none⟩, ⟨(some 15), (.p (.bin 0 .mul (.t 11) (.t 14))), none⟩, ⟨(some 16), (.p (.bin 0 .shr (.t 15) (.c (.int .u64 (.lit 32))))), none⟩, ⟨(some 17), (.p (.conv .u32 (.t 16))), none⟩, ⟨(some 8), (.p (.mv (.t 17))), none⟩])
 .ret))⟩
/- corral/word.Div -/
def af63 : AFunc := ⟨29, [.t 6],
 (.seq (.reg [⟨(some 6), (.p (.mv (.c (.int .u32 (.lit 0))))), none⟩])
 (.seq (.block 0 (.seq (.reg [⟨(some 8), (.p (.mv (.t 1))), none⟩, ⟨(some 9), (.p (.bin 0 .eql (.t 8) (.c (.int .u32 (.lit 0))))), none⟩, ⟨(some 7), (.p (.mv (.t 9))), none⟩])
 (.cond (.t 7) (.seq (.reg [⟨(some 6), (.p (.mv (.c (.int .u32 (.lit 4294967295))))), none⟩])
 .ret)
 (.seq (.reg [⟨(some 11), (.p (.mv (.t 2))), none⟩, ⟨(some 12), (.p (.mv (.t 11))), none⟩, ⟨(some 13), (.p (.mv (.t 1))), (some (12, true))⟩, ⟨(some 14), (.p (.bin 0 .eql (.t 13) (.c (.int .u32 (.lit 4294967295))))), (some (12, true))⟩, ⟨(some 15), (.pick (.t 12) (.t 14) (.c (.bool (.lit false)))), none⟩, ⟨(some 10), (.p (.mv (.t 15))), none⟩])
 (.cond (.t 10) (.seq (.reg [⟨(some 16), (.p (.mv (.t 0))), none⟩, ⟨(some 17), (.p (.un .neg (.t 16))), none⟩, ⟨(some 6), (.p (.mv (.t 17))), none⟩])
 .ret)
 (.seq (.reg [⟨(some 19), (.p (.mv (.t 2))), none⟩, ⟨(some 18), (.p (.mv (.t 19))), none⟩])
 (.cond (.t 18) (.seq (.reg [⟨(some 20), (.p (.mv (.t 0))), none⟩, ⟨(some 21), (.p (.conv .i32 (.t 20))), none⟩, ⟨(some 22), (.p (.mv (.t 1))), none⟩, ⟨(some 23), (.p (.conv .i32 (.t 22))), none⟩, ⟨(some 24), (.p (.bin 0 .quo (.t 21) (.t 23))), none⟩, ⟨(some 25), (.p (.conv .u32 (.t 24))), none⟩, ⟨(some 6), (.p (.mv (.t 25))), none⟩])
 .ret)
 .skip)))))))
 (.seq (.reg [⟨(some 26), (.p (.mv (.t 0))), none⟩, ⟨(some 27), (.p (.mv (.t 1))), none⟩, ⟨(some 28), (.p (.bin 0 .quo (.t 26) (.t 27))), none⟩, ⟨(some 6), (.p (.mv (.t 28))), none⟩])
 .ret)))⟩
/- corral/word.Rem -/
def af64 : AFunc := ⟨28, [.t 6],
 (.seq (.reg [⟨(some 6), (.p (.mv (.c (.int .u32 (.lit 0))))), none⟩])
 (.seq (.block 0 (.seq (.reg [⟨(some 8), (.p (.mv (.t 1))), none⟩, ⟨(some 9), (.p (.bin 0 .eql (.t 8) (.c (.int .u32 (.lit 0))))), none⟩, ⟨(some 7), (.p (.mv (.t 9))), none⟩])
 (.cond (.t 7) (.seq (.reg [⟨(some 10), (.p (.mv (.t 0))), none⟩, ⟨(some 6), (.p (.mv (.t 10))), none⟩])
 .ret)
 (.seq (.reg [⟨(some 12), (.p (.mv (.t 2))), none⟩, ⟨(some 13), (.p (.mv (.t 12))), none⟩, ⟨(some 14), (.p (.mv (.t 1))), (some (13, true))⟩, ⟨(some 15), (.p (.bin 0 .eql (.t 14) (.c (.int .u32 (.lit 4294967295))))), (some (13, true))⟩, ⟨(some 16), (.pick (.t 13) (.t 15) (.c (.bool (.lit false)))), none⟩, ⟨(some 11), (.p (.mv (.t 16))), none⟩])
 (.cond (.t 11) (.seq (.reg [⟨(some 6), (.p (.mv (.c (.int .u32 (.lit 0))))), none⟩])
 .ret)
 (.seq (.reg [⟨(some 18), (.p (.mv (.t 2))), none⟩, ⟨(some 17), (.p (.mv (.t 18))), none⟩])
 (.cond (.t 17) (.seq (.reg [⟨(some 19), (.p (.mv (.t 0))), none⟩, ⟨(some 20), (.p (.conv .i32 (.t 19))), none⟩, ⟨(some 21), (.p (.mv (.t 1))), none⟩, ⟨(some 22), (.p (.conv .i32 (.t 21))), none⟩, ⟨(some 23), (.p (.bin 0 .rem (.t 20) (.t 22))), none⟩, ⟨(some 24), (.p (.conv .u32 (.t 23))), none⟩, ⟨(some 6), (.p (.mv (.t 24))), none⟩])
 .ret)
 .skip)))))))
 (.seq (.reg [⟨(some 25), (.p (.mv (.t 0))), none⟩, ⟨(some 26), (.p (.mv (.t 1))), none⟩, ⟨(some 27), (.p (.bin 0 .rem (.t 25) (.t 26))), none⟩, ⟨(some 6), (.p (.mv (.t 27))), none⟩])
 .ret)))⟩
/- corral/alu.Amo$1 -/
def af65 : AFunc := ⟨9, [.t 4, .t 5],
 (.seq (.reg [⟨(some 4), (.p (.mv (.c (.int .u32 (.lit 0))))), none⟩, ⟨(some 5), (.p (.mv (.c (.bool (.lit false))))), none⟩])
 (.seq (.seq (.reg [⟨(some 6), (.p (.mv (.t 0))), none⟩])
 (.cond (.t 6) (.seq (.reg [⟨(some 7), (.load false 1 (.t 1)), none⟩, ⟨(some 4), (.p (.mv (.t 7))), none⟩, ⟨(some 5), (.p (.mv (.c (.bool (.lit true))))), none⟩])
 .ret)
 .skip))
 (.seq (.reg [⟨(some 8), (.load false 1 (.t 2)), none⟩, ⟨(some 4), (.p (.mv (.t 8))), none⟩, ⟨(some 5), (.p (.mv (.c (.bool (.lit true))))), none⟩])
 .ret)))⟩
/- corral/isa.Kind -/
def af66 : AFunc := ⟨12, [.t 2],
 (.seq (.reg [⟨(some 2), (.p (.mv (.c (.int .i64 (.lit 0))))), none⟩])
 (.seq (.reg [⟨(some 6), (.p (.mv (.t 0))), none⟩, ⟨(some 7), (.call (.f 83) [(.t 6)]), none⟩, ⟨(some 5), (.p (.mv (.t 7))), none⟩, ⟨(some 8), (.p (.extract 0 (.t 5))), none⟩, ⟨(some 9), (.p (.extract 1 (.t 5))), none⟩, ⟨(some 3), (.newC [(.int .i64 (.lit 0)), (.str ⟨#[]⟩), (.int .i64 (.lit 0)), (.int .u32 (.lit 0)), (.int .u32 (.lit 0)), (.int .u32 (.lit 0)), (.int .i64 (.lit 0))]), none⟩, ⟨none, (.store 7 (.t 3) (.t 8)), none⟩, ⟨(some 4), (.p (.mv (.t 9))), none⟩])
 (.seq (.reg [⟨(some 10), (.p (.fieldAddr 6 (.t 3))), none⟩, ⟨(some 11), (.load false 1 (.t 10)), none⟩, ⟨(some 2), (.p (.mv (.t 11))), none⟩])
 .ret)))⟩
/- corral/word.Bits -/
def af67 : AFunc := ⟨23, [.t 6],
 (.seq (.reg [⟨(some 6), (.p (.mv (.c (.int .u32 (.lit 0))))), none⟩])
 (.seq (.seq (.reg [⟨(some 7), (.p (.mv (.t 1))), none⟩, ⟨(some 8), (.p (.bin 0 .lss (.t 7) (.c (.int .i64 (.lit 0))))), none⟩, ⟨(some 9), (.p (.mv (.t 8))), none⟩, ⟨(some 10), (.p (.mv (.t 1))), (some (9, false))⟩, ⟨(some 11), (.p (.bin 0 .geq (.t 10) (.c (.int .i64 (.lit 32))))), (some (9, false))⟩, ⟨(some 12), (.pick (.t 9) (.c (.bool (.lit true))) (.t 11)), none⟩, ⟨(some 13), (.p (.mv (.t 12))), none⟩, ⟨(some 14), (.p (.mv (.t 2))), (some (13, false))⟩, ⟨(some 15), (.p (.bin 0 .lss (.t 14) (.c (.int .i64 (.lit 1))))), (some (13, false))⟩, ⟨(some 16), (.pick (.t 13) (.c (.bool (.lit true))) (.t 15)), none⟩])
 (.cond (.t 16) (.seq (.reg [⟨(some 6), (.p (.mv (.c (.int .u32 (.lit 0))))), none⟩])
 .ret)
 .skip))
 (.seq (.draw [(⟨(some 17), (.p (.mv (.t 0))), none⟩, []), (⟨(some 18), (.p (.mv (.t 1))), none⟩, []), (⟨(some 19), (.p (.bin 0 .shr (.t 17) (.t 18))), none⟩, []), (⟨(some 20), (.p (.mv (.t 2))), none⟩, []), (⟨(some 21), (.call (.f 84) [(.t 20)]), none⟩, []), (⟨(some 22), (.p (.bin 0 .and (.t 19) (.t 21))), none⟩, []), (⟨(some 6), (.p (.mv (.t 22))), none⟩, [])])
 .ret)))⟩
/- corral/alu.loads -/
def af68 : AFunc := ⟨16, [.t 2],
 (.seq (.reg [⟨(some 2), (.p (.mv (.c (.bool (.lit false))))), none⟩])
 (.seq (.reg [⟨(some 4), (.p (.mv (.t 0))), none⟩, ⟨(some 5), (.call (.f 66) [(.t 4)]), none⟩, ⟨(some 3), (.p (.mv (.t 5))), none⟩])
 (.seq (.reg [⟨(some 6), (.p (.mv (.t 3))), none⟩, ⟨(some 7), (.p (.bin 0 .eql (.t 6) (.c (.int .i64 (.lit 4))))), none⟩, ⟨(some 8), (.p (.mv (.t 7))), none⟩, ⟨(some 9), (.p (.mv (.t 3))), (some (8, false))⟩, ⟨(some 10), (.p (.bin 0 .eql (.t 9) (.c (.int .i64 (.lit 6))))), (some (8, false))⟩, ⟨(some 11), (.p (.mv (.t 10))), (some (8, false))⟩, ⟨(some 12), (.p (.mv (.t 0))), (some (11, true))⟩, ⟨(some 13), (.p (.bin 0 .neq (.t 12) (.c (.int .i64 (.lit 60))))), (some (11, true))⟩, ⟨(some 14), (.pick (.t 11) (.t 13) (.c (.bool (.lit false)))), (some (8, false))⟩, ⟨(some 15), (.pick (.t 8) (.c (.bool (.lit true))) (.t 14)), none⟩, ⟨(some 2), (.p (.mv (.t 15))), none⟩])
 .ret)))⟩
/- corral/word.Sign -/
def af69 : AFunc := ⟨21, [.t 4],
 (.seq (.reg [⟨(some 4), (.p (.mv (.c (.int .u32 (.lit 0))))), none⟩])
 (.seq (.block 0 (.seq (.reg [⟨(some 6), (.p (.mv (.t 1))), none⟩, ⟨(some 7), (.p (.bin 0 .lss (.t 6) (.c (.int .i64 (.lit 1))))), none⟩, ⟨(some 5), (.p (.mv (.t 7))), none⟩])
 (.cond (.t 5) (.seq (.reg [⟨(some 4), (.p (.mv (.c (.int .u32 (.lit 0))))), none⟩])
 .ret)
 (.seq (.reg [⟨(some 9), (.p (.mv (.t 1))), none⟩, ⟨(some 10), (.p (.bin 0 .geq (.t 9) (.c (.int .i64 (.lit 32))))), none⟩, ⟨(some 8), (.p (.mv (.t 10))), none⟩])
 (.cond (.t 8) (.seq (.reg [⟨(some 11), (.p (.mv (.t 0))), none⟩, ⟨(some 4), (.p (.mv (.t 11))), none⟩])
 .ret)
 .skip)))))
 (.seq (.reg [⟨(some 12), (.p (.mv (.t 0))), none⟩, ⟨(some 13), (.p (.mv (.t 1))), none⟩, ⟨(some 14), (.p (.bin 0 .sub (.c (.int .i64 (.lit 32))) (.t 13))), none⟩, ⟨(some 15), (.p (.bin 0 .shl (.t 12) (.t 14))), none⟩, ⟨(some 16), (.p (.conv .i32 (.t 15))), none⟩, ⟨(some 17), (.p (.mv (.t 1))), none⟩, ⟨(some 18), (.p (.bin 0 .sub (.c (.int .i64 (.lit 32))) (.t 17))), none⟩, ⟨(some 19), (.p (.bin 0 .shr (.t 16) (.t 18))), none⟩, ⟨(some 20), (.p (.conv .u32 (.t 19))), none⟩, ⟨(some 4), (.p (.mv (.t 20))), none⟩])
 .ret)))⟩
/- corral/word.wide -/
def af82 : AFunc := ⟨12, [.t 4],
 (.seq (.reg [⟨(some 4), (.p (.mv (.c (.int .u64 (.lit 0))))), none⟩])
 (.seq (.seq (.reg [⟨(some 5), (.p (.mv (.t 1))), none⟩])
 (.cond (.t 5) (.seq (.reg [⟨(some 6), (.p (.mv (.t 0))), none⟩, ⟨(some 7), (.p (.conv .i32 (.t 6))), none⟩, ⟨(some 8), (.p (.conv .i64 (.t 7))), none⟩, ⟨(some 9), (.p (.conv .u64 (.t 8))), none⟩, ⟨(some 4), (.p (.mv (.t 9))), none⟩])
 .ret)
 .skip))
 (.seq (.reg [⟨(some 10), (.p (.mv (.t 0))), none⟩, ⟨(some 11), (.p (.conv .u64 (.t 10))), none⟩, ⟨(some 4), (.p (.mv (.t 11))), none⟩])
 .ret)))⟩
/- corral/isa.find -/
def af83 : AFunc := ⟨16, [.cell 2 true 7, .t 3],
 (.seq (.reg [⟨(some 2), (.newC [(.int .i64 (.lit 0)), (.str ⟨#[]⟩), (.int .i64 (.lit 0)), (.int .u32 (.lit 0)), (.int .u32 (.lit 0)), (.int .u32 (.lit 0)), (.int .i64 (.lit 0))]), none⟩, ⟨(some 3), (.p (.mv (.c (.bool (.lit false))))), none⟩])
 (.seq (.seq (.reg [⟨(some 4), (.p (.mv (.t 0))), none⟩, ⟨(some 5), (.p (.bin 0 .lss (.t 4) (.c (.int .i64 (.lit 1))))), none⟩, ⟨(some 6), (.p (.mv (.t 5))), none⟩, ⟨(some 7), (.p (.mv (.t 0))), (some (6, false))⟩, ⟨(some 8), (.p (.bin 0 .gtr (.t 7) (.c (.int .i64 (.lit 69))))), (some (6, false))⟩, ⟨(some 9), (.pick (.t 6) (.c (.bool (.lit true))) (.t 8)), none⟩])
 (.cond (.t 9) (.seq (.reg [⟨(some 10), (.p (.build [(.int .i64 (.lit 0)), (.str ⟨#[]⟩), (.int .i64 (.lit 0)), (.int .u32 (.lit 0)), (.int .u32 (.lit 0)), (.int .u32 (.lit 0)), (.int .i64 (.lit 0))] [])), none⟩, ⟨none, (.store 7 (.t 2) (.t 10)), none⟩, ⟨(some 3), (.p (.mv (.c (.bool (.lit false))))), none⟩])
 .ret)
 .skip))
 (.seq (.reg [⟨(some 11), (.call (.f 87) []), none⟩, ⟨(some 12), (.p (.mv (.t 0))), none⟩, ⟨(some 13), (.p (.bin 0 .sub (.t 12) (.c (.int .i64 (.lit 1))))), none⟩, ⟨(some 14), (.p (.idxSl 7 (.t 11) (.t 13))), none⟩, ⟨(some 15), (.load true 7 (.t 14)), none⟩, ⟨none, (.store 7 (.t 2) (.t 15)), none⟩, ⟨(some 3), (.p (.mv (.c (.bool (.lit true))))), none⟩])
 .ret)))⟩
/- corral/word.mask -/
def af84 : AFunc := ⟨9, [.t 2],
 (.seq (.reg [⟨(some 2), (.p (.mv (.c (.int .u32 (.lit 0))))), none⟩])
 (.seq (.seq (.reg [⟨(some 3), (.p (.mv (.t 0))), none⟩, ⟨(some 4), (.p (.bin 0 .geq (.t 3) (.c (.int .i64 (.lit 32))))), none⟩])
 (.cond (.t 4) (.seq (.reg [⟨(some 2), (.p (.mv (.c (.int .u32 (.lit 4294967295))))), none⟩])
 .ret)
 .skip))
 (.seq (.reg [⟨(some 5), (.p (.mv (.t 0))), none⟩, ⟨(some 6), (.p (.mx (.t 5) (.c (.int .i64 (.lit 0))))), none⟩, ⟨(some 7), (.p (.bin 0 .shl (.c (.int .u32 (.lit 1))) (.t 6))), none⟩, ⟨(some 8), (.p (.bin 0 .sub (.t 7) (.c (.int .u32 (.lit 1))))), none⟩, ⟨(some 2), (.p (.mv (.t 8))), none⟩])
 .ret)))⟩
/- corral/isa.rows -/
def af87 : AFunc := ⟨71, [.t 0],
 (.seq (.reg [⟨(some 0), (.p (.mv (.c .nilSlice))), none⟩])
 (.seq (.reg [⟨(some 1), (.p (.build [(.int .i64 (.lit 0)), (.str ⟨#[]⟩), (.int .i64 (.lit 0)), (.int .u32 (.lit 0)), (.int .u32 (.lit 0)), (.int .u32 (.lit 0)), (.int .i64 (.lit 0))] [(0, 1, (.c (.int .i64 (.lit 1)))), (1, 1, (.c (.str ⟨#[108, 117, 105]⟩))), (2, 1, (.c (.int .i64 (.lit 0)))), (3, 1, (.c (.int .u32 (.lit 55)))), (4, 1, (.c (.int .u32 (.lit 0)))), (5, 1, (.c (.int .u32 (.lit 0)))), (6, 1, (.c (.int .i64 (.lit 1))))])), none⟩, ⟨(some 2), (.p (.build [(.int .i64 (.lit 0)), (.str ⟨#[]⟩), (.int .i64 (.lit 0)), (.int .u32 (.lit 0)), (.int .u32 (.lit 0)), (.int .u32 (.lit 0)), (.int .i64 (.lit 0))] [(0, 1, (.c (.int .i64 (.lit 2)))), (1, 1, (.c (.str ⟨#[97, 117, 105, 112, 99]⟩))), (2, 1, (.c (.int .i64 (.lit 0)))), (3, 1, (.c (.int .u32 (.lit 23)))), (4, 1, (.c (.int .u32 (.lit 0)))), (5, 1, (.c (.int .u32 (.lit 0)))), (6, 1, (.c (.int .i64 (.lit 1))))])), none⟩, ⟨(some 3), (.p (.build [(.int .i64 (.lit 0)), (.str ⟨#[]⟩), (.int .i64 (.lit 0)), (.int .u32 (.lit 0)), (.int .u32 (.lit 0)), (.int .u32 (.lit 0)), (.int .i64 (.lit 0))] [(0, 1, (.c (.int .i64 (.lit 3)))), (1, 1, (.c (.str ⟨#[106, 97, 108]⟩))), (2, 1, (.c (.int .i64 (.lit 1)))), (3, 1, (.c (.int .u32 (.lit 111)))), (4, 1, (.c (.int .u32 (.lit 0)))), (5, 1, (.c (.int .u32 (.lit 0)))), (6, 1, (.c (.int .i64 (.lit 2))))])), none⟩, ⟨(some 4), (.p (.build [(.int .i64 (.lit 0)), (.str ⟨#[]⟩), (.int .i64 (.lit 0)), (.int .u32 (.lit 0)), (.int .u32 (.lit 0)), (.int .u32 (.lit 0)), (.int .i64 (.lit 0))] [(0, 1, (.c (.int .i64 (.lit 4)))), (1, 1, (.c (.str ⟨#[106, 97, 108, 114]⟩))), (2, 1, (.c (.int .i64 (.lit 2)))), (3, 1, (.c (.int .u32 (.lit 103)))), (4, 1, (.c (.int .u32 (.lit 0)))), (5, 1, (.c (.int .u32 (.lit 0)))), (6, 1, (.c (.int .i64 (.lit 2))))])), none⟩, ⟨(some 5), (.p (.build [(.int .i64 (.lit 0)), (.str ⟨#[]⟩), (.int .i64 (.lit 0)), (.int .u32 (.lit 0)), (.int .u32 (.lit 0)), (.int .u32 (.lit 0)), (.int .i64 (.lit 0))] [(0, 1, (.c (.int .i64 (.lit 5)))), (1, 1, (.c (.str ⟨#[98, 101, 113]⟩))), (2, 1, (.c (.int .i64 (.lit 3)))), (3, 1, (.c (.int .u32 (.lit 99)))), (4, 1, (.c (.int .u32 (.lit 0)))), (5, 1, (.c (.int .u32 (.lit 0)))), (6, 1, (.c (.int .i64 (.lit 3))))])), none⟩, ⟨(some 6), (.p (.build [(.int .i64 (.lit 0)), (.str ⟨#[]⟩), (.int .i64 (.lit 0)), (.int .u32 (.lit 0)), (.int .u32 (.lit 0)), (.int .u32 (.lit 0)), (.int .i64 (.lit 0))] [(0, 1, (.c (.int .i64 (.lit 6)))), (1, 1, (.c (.str ⟨#[98, 110, 101]⟩))), (2, 1, (.c (.int .i64 (.lit 3)))), (3, 1, (.c (.int .u32 (.lit 99)))), (4, 1, (.c (.int .u32 (.lit 1)))), (5, 1, (.c (.int .u32 (.lit 0)))), (6, 1, (.c (.int .i64 (.lit 3))))])), none⟩, ⟨(some 7), (.p (.build [(.int .i64 (.lit 0)), (.str ⟨#[]⟩), (.int .i64 (.lit 0)), (.int .u32 (.lit 0)), (.int .u32 (.lit 0)), (.int .u32 (.lit 0)), (.int .i64 (.lit 0))] [(0, 1, (.c (.int .i64 (.lit 7)))), (1, 1, (.c (.str ⟨#[98, 108, 116]⟩))), (2, 1, (.c (.int .i64 (.lit 3)))), (3, 1, (.c (.int .u32 (.lit 99)))), (4, 1, (.c (.int .u32 (.lit 4)))), (5, 1, (.c (.int .u32 (.lit 0)))), (6, 1, (.c (.int .i64 (.lit 3))))])), none⟩, ⟨(some 8), (.p (.build [(.int .i64 (.lit 0)), (.str ⟨#[]⟩), (.int .i64 (.lit 0)), (.int .u32 (.lit 0)), (.int .u32 (.lit 0)), (.int .u32 (.lit 0)), (.int .i64 (.lit 0))] [(0, 1, (.c (.int .i64 (.lit 8)))), (1, 1, (.c (.str ⟨#[98, 103, 101]⟩))), (2, 1, (.c (.int .i64 (.lit 3)))), (3, 1, (.c (.int .u32 (.lit 99)))), (4, 1, (.c (.int .u32 (.lit 5)))), (5, 1, (.c (.int .u32 (.lit 0)))), (6, 1, (.c (.int .i64 (.lit 3))))])), none⟩, ⟨(some 9), (.p (.build [(.int .i64 (.lit 0)), (.str ⟨#[]⟩), (.int .i64 (.lit 0)), (.int .u32 (.lit 0)), (.int .u32 (.lit 0)), (.int .u32 (.lit 0)), (.int .i64 (.lit 0))] [(0, 1, (.c (.int .i64 (.lit 9)))), (1, 1, (.c (.str ⟨#[98, 108, 116, 117]⟩))), (2, 1, (.c (.int .i64 (.lit 3)))), (3, 1, (.c (.int .u32 (.lit 99)))), (4, 1, (.c (.int .u32 (.lit 6)))), (5, 1, (.c (.int .u32 (.lit 0)))), (6, 1, (.c (.int .i64 (.lit 3))))])), none⟩, ⟨(some 10), (.p (.build [(.int .i64 (.lit 0)), (.str ⟨#[]⟩), (.int .i64 (.lit 0)), (.int .u32 (.lit 0)), (.int .u32 (.lit 0)), (.int .u32 (.lit 0)), (.int .i64 (.lit 0))] [(0, 1, (.c (.int .i64 (.lit 10)))), (1, 1, (.c (.str ⟨#[98, 103, 101, 117]⟩))), (2, 1, (.c (.int .i64 (.lit 3)))), (3, 1, (.c (.int .u32 (.lit 99)))), (4, 1, (.c (.int .u32 (.lit 7)))), (5, 1, (.c (.int .u32 (.lit 0)))), (6, 1, (.c (.int .i64 (.lit 3))))])), none⟩, ⟨(some 11), (.p (.build [(.int .i64 (.lit 0)), (.str ⟨#[]⟩), (.int .i64 (.lit 0)), (.int .u32 (.lit 0)), (.int .u32 (.lit 0)), (.int .u32 (.lit 0)), (.int .i64 (.lit 0))] [(0, 1, (.c (.int .i64 (.lit 11)))), (1, 1, (.c (.str ⟨#[108, 98]⟩))), (2, 1, (.c (.int .i64 (.lit 2)))), (3, 1, (.c (.int .u32 (.lit 3)))), (4, 1, (.c (.int .u32 (.lit 0)))), (5, 1, (.c (.int .u32 (.lit 0)))), (6, 1, (.c (.int .i64 (.lit 4))))])), none⟩, ⟨(some 12), (.p (.build [(.int .i64 (.lit 0)), (.str ⟨#[]⟩), (.int .i64 (.lit 0)), (.int .u32 (.lit 0)), (.int .u32 (.lit 0)), (.int .u32 (.lit 0)), (.int .i64 (.lit 0))] [(0, 1, (.c (.int .i64 (.lit 12)))), (1, 1, (.c (.str ⟨#[108, 104]⟩))), (2, 1, (.c (.int .i64 (.lit 2)))), (3, 1, (.c (.int .u32 (.lit 3)))), (4, 1, (.c (.int .u32 (.lit 1)))), (5, 1, (.c (.int .u32 (.lit 0)))), (6, 1, (.c (.int .i64 (.lit 4))))])), none⟩, ⟨(some 13), (.p (.build [(.int .i64 (.lit 0)), (.str ⟨#[]⟩), (.int .i64 (.lit 0)), (.int .u32 (.lit 0)), (.int .u32 (.lit 0)), (.int .u32 (.lit 0)), (.int .i64 (.lit 0))] [(0, 1, (.c (.int .i64 (.lit 13)))), (1, 1, (.c (.str ⟨#[108, 119]⟩))), (2, 1, (.c (.int .i64 (.lit 2)))), (3, 1, (.c (.int .u32 (.lit 3)))), (4, 1, (.c (.int .u32 (.lit 2)))), (5, 1, (.c (.int .u32 (.lit 0)))), (6, 1, (.c (.int .i64 (.lit 4))))])), none⟩, ⟨(some 14), (.p (.build [(.int .i64 (.lit 0)), (.str ⟨#[]⟩), (.int .i64 (.lit 0)), (.int .u32 (.lit 0)), (.int .u32 (.lit 0)), (.int .u32 (.lit 0)), (.int .i64 (.lit 0))] [(0, 1, (.c (.int .i64 (.lit 14)))), (1, 1, (.c (.str ⟨#[108, 98, 117]⟩))), (2, 1, (.c (.int .i64 (.lit 2)))), (3, 1, (.c (.int .u32 (.lit 3)))), (4, 1, (.c (.int .u32 (.lit 4)))), (5, 1, (.c (.int .u32 (.lit 0)))), (6, 1, (.c (.int .i64 (.lit 4))))])), none⟩, ⟨(some 15), (.p (.build [(.int .i64 (.lit 0)), (.str ⟨#[]⟩), (.int .i64 (.lit 0)), (.int .u32 (.lit 0)), (.int .u32 (.lit 0)), (.int .u32 (.lit 0)), (.int .i64 (.lit 0))] [(0, 1, (.c (.int .i64 (.lit 15)))), (1, 1, (.c (.str ⟨#[108, 104, 117]⟩))), (2, 1, (.c (.int .i64 (.lit 2)))), (3, 1, (.c (.int .u32 (.lit 3)))), (4, 1, (.c (.int .u32 (.lit 5)))), (5, 1, (.c (.int .u32 (.lit 0)))), (6, 1, (.c (.int .i64 (.lit 4))))])), none⟩, ⟨(some 16), (.p (.build [(.int .i64 (.lit 0)), (.str ⟨#[]⟩), (.int .i64 (.lit 0)), (.int .u32 (.lit 0)), (.int .u32 (.lit 0)), (.int .u32 (.lit 0)), (.int .i64 (.lit 0))] [(0, 1, (.c (.int .i64 (.lit 16)))), (1, 1, (.c (.str ⟨#[115, 98]⟩))), (2, 1, (.c (.int .i64 (.lit 4)))), (3, 1, (.c (.int .u32 (.lit 35)))), (4, 1, (.c (.int .u32 (.lit 0)))), (5, 1, (.c (.int .u32 (.lit 0)))), (6, 1, (.c (.int .i64 (.lit 5))))])), none⟩, ⟨(some 17), (.p (.build [(.int .i64 (.lit 0)), (.str ⟨#[]⟩), (.int .i64 (.lit 0)), (.int .u32 (.lit 0)), (.int .u32 (.lit 0)), (.int .u32 (.lit 0)), (.int .i64 (.lit 0))] [(0, 1, (.c (.int .i64 (.lit 17)))), (1, 1, (.c (.str ⟨#[115, 104]⟩))), (2, 1, (.c (.int .i64 (.lit 4)))), (3, 1, (.c (.int .u32 (.lit 35)))), (4, 1, (.c (.int .u32 (.lit 1)))), (5, 1, (.c (.int .u32 (.lit 0)))), (6, 1, (.c (.int .i64 (.lit 5))))])), none⟩, ⟨(some 18), (.p (.build [(.int .i64 (.lit 0)), (.str ⟨#[]⟩), (.int .i64 (.lit 0)), (.int .u32 (.lit 0)), (.int .u32 (.lit 0)), (.int .u32 (.lit 0)), (.int .i64 (.lit 0))] [(0, 1, (.c (.int .i64 (.lit 18)))), (1, 1, (.c (.str ⟨#[115, 119]⟩))), (2, 1, (.c (.int .i64 (.lit 4)))), (3, 1, (.c (.int .u32 (.lit 35)))), (4, 1, (.c (.int .u32 (.lit 2)))), (5, 1, (.c (.int .u32 (.lit 0)))), (6, 1, (.c (.int .i64 (.lit 5))))])), none⟩, ⟨(some 19), (.p (.build [(.int .i64 (.lit 0)), (.str ⟨#[]⟩), (.int .i64 (.lit 0)), (.int .u32 (.lit 0)), (.int .u32 (.lit 0)), (.int .u32 (.lit 0)), (.int .i64 (.lit 0))] [(0, 1, (.c (.int .i64 (.lit 19)))), (1, 1, (.c (.str ⟨#[97, 100, 100, 105]⟩))), (2, 1, (.c (.int .i64 (.lit 2)))), (3, 1, (.c (.int .u32 (.lit 19)))), (4, 1, (.c (.int .u32 (.lit 0)))), (5, 1, (.c (.int .u32 (.lit 0)))), (6, 1, (.c (.int .i64 (.lit 1))))])), none⟩, ⟨(some 20), (.p (.build [(.int .i64 (.lit 0)), (.str ⟨#[]⟩), (.int .i64 (.lit 0)), (.int .u32 (.lit 0)), (.int .u32 (.lit 0)), (.int .u32 (.lit 0)), (.int .i64 (.lit 0))] [(0, 1, (.c (.int .i64 (.lit 20)))), (1, 1, (.c (.str ⟨#[115, 108, 116, 105]⟩))), (2, 1, (.c (.int .i64 (.lit 2)))), (3, 1, (.c (.int .u32 (.lit 19)))), (4, 1, (.c (.int .u32 (.lit 2)))), (5, 1, (.c (.int .u32 (.lit 0)))), (6, 1, (.c (.int .i64 (.lit 1))))])), none⟩, ⟨(some 21), (.p (.build [(.int .i64 (.lit 0)), (.str ⟨#[]⟩), (.int .i64 (.lit 0)), (.int .u32 (.lit 0)), (.int .u32 (.lit 0)), (.int .u32 (.lit 0)), (.int .i64 (.lit 0))] [(0, 1, (.c (.int .i64 (.lit 21)))), (1, 1, (.c (.str ⟨#[115, 108, 116, 105, 117]⟩))), (2, 1, (.c (.int .i64 (.lit 2)))), (3, 1, (.c (.int .u32 (.lit 19)))), (4, 1, (.c (.int .u32 (.lit 3)))), (5, 1, (.c (.int .u32 (.lit 0)))), (6, 1, (.c (.int .i64 (.lit 1))))])), none⟩, ⟨(some 22), (.p (.build [(.int .i64 (.lit 0)), (.str ⟨#[]⟩), (.int .i64 (.lit 0)), (.int .u32 (.lit 0)), (.int .u32 (.lit 0)), (.int .u32 (.lit 0)), (.int .i64 (.lit 0))] [(0, 1, (.c (.int .i64 (.lit 22)))), (1, 1, (.c (.str ⟨#[120, 111, 114, 105]⟩))), (2, 1, (.c (.int .i64 (.lit 2)))), (3, 1, (.c (.int .u32 (.lit 19)))), (4, 1, (.c (.int .u32 (.lit 4)))), (5, 1, (.c (.int .u32 (.lit 0)))), (6, 1, (.c (.int .i64 (.lit 1))))])), none⟩, ⟨(some 23), (.p (.build [(.int .i64 (.lit 0)), (.str ⟨#[]⟩), (.int .i64 (.lit 0)), (.int .u32 (.lit 0)), (.int .u32 (.lit 0)), (.int .u32 (.lit 0)), (.int .i64 (.lit 0))] [(0, 1, (.c (.int .i64 (.lit 23)))), (1, 1, (.c (.str ⟨#[111, 114, 105]⟩))), (2, 1, (.c (.int .i64 (.lit 2)))), (3, 1, (.c (.int .u32 (.lit 19)))), (4, 1, (.c (.int .u32 (.lit 6)))), (5, 1, (.c (.int .u32 (.lit 0)))), (6, 1, (.c (.int .i64 (.lit 1))))])), none⟩, ⟨(some 24), (.p (.build [(.int .i64 (.lit 0)), (.str ⟨#[]⟩), (.int .i64 (.lit 0)), (.int .u32 (.lit 0)), (.int .u32 (.lit 0)), (.int .u32 (.lit 0)), (.int .i64 (.lit 0))] [(0, 1, (.c (.int .i64 (.lit 24)))), (1, 1, (.c (.str ⟨#[97, 110, 100, 105]⟩))), (2, 1, (.c (.int .i64 (.lit 2)))), (3, 1, (.c (.int .u32 (.lit 19)))), (4, 1, (.c (.int .u32 (.lit 7)))), (5, 1, (.c (.int .u32 (.lit 0)))), (6, 1, (.c (.int .i64 (.lit 1))))])), none⟩, ⟨(some 25), (.p (.build [(.int .i64 (.lit 0)), (.str ⟨#[]⟩), (.int .i64 (.lit 0)), (.int .u32 (.lit 0)), (.int .u32 (.lit 0)), (.int .u32 (.lit 0)), (.int .i64 (.lit 0))] [(0, 1, (.c (.int .i64 (.lit 25)))), (1, 1, (.c (.str ⟨#[115, 108, 108, 105]⟩))), (2, 1, (.c (.int .i64 (.lit 5)))), (3, 1, (.c (.int .u32 (.lit 19)))), (4, 1, (.c (.int .u32 (.lit 1)))), (5, 1, (.c (.int .u32 (.lit 0)))), (6, 1, (.c (.int .i64 (.lit 1))))])), none⟩, ⟨(some 26), (.p (.build [(.int .i64 (.lit 0)), (.str ⟨#[]⟩), (.int .i64 (.lit 0)), (.int .u32 (.lit 0)), (.int .u32 (.lit 0)), (.int .u32 (.lit 0)), (.int .i64 (.lit 0))] [(0, 1, (.c (.int .i64 (.lit 26)))), (1, 1, (.c (.str ⟨#[115, 114, 108, 105]⟩))), (2, 1, (.c (.int .i64 (.lit 5)))), (3, 1, (.c (.int .u32 (.lit 19)))), (4, 1, (.c (.int .u32 (.lit 5)))), (5, 1, (.c (.int .u32 (.lit 0)))), (6, 1, (.c (.int .i64 (.lit 1))))])), none⟩, ⟨(some 27), (.p (.build [(.int .i64 (.lit 0)), (.str ⟨#[]⟩), (.int .i64 (.lit 0)), (.int .u32 (.lit 0)), (.int .u32 (.lit 0)), (.int .u32 (.lit 0)), (.int .i64 (.lit 0))] [(0, 1, (.c (.int .i64 (.lit 27)))), (1, 1, (.c (.str ⟨#[115, 114, 97, 105]⟩))), (2, 1, (.c (.int .i64 (.lit 5)))), (3, 1, (.c (.int .u32 (.lit 19)))), (4, 1, (.c (.int .u32 (.lit 5)))), (5, 1, (.c (.int .u32 (.lit 32)))), (6, 1, (.c (.int .i64 (.lit 1))))])), none⟩, ⟨(some 28), (.p (.build [(.int .i64 (.lit 0)), (.str ⟨#[]⟩), (.int .i64 (.lit 0)), (.int .u32 (.lit 0)), (.int .u32 (.lit 0)), (.int .u32 (.lit 0)), (.int .i64 (.lit 0))] [(0, 1, (.c (.int .i64 (.lit 28)))), (1, 1, (.c (.str ⟨#[97, 100, 100]⟩))), (2, 1, (.c (.int .i64 (.lit 6)))), (3, 1, (.c (.int .u32 (.lit 51)))), (4, 1, (.c (.int .u32 (.lit 0)))), (5, 1, (.c (.int .u32 (.lit 0)))), (6, 1, (.c (.int .i64 (.lit 1))))])), none⟩, ⟨(some 29), (.p (.build [(.int .i64 (.lit 0)), (.str ⟨#[]⟩), (.int .i64 (.lit 0)), (.int .u32 (.lit 0)), (.int .u32 (.lit 0)), (.int .u32 (.lit 0)), (.int .i64 (.lit 0))] [(0, 1, (.c (.int .i64 (.lit 29)))), (1, 1, (.c (.str ⟨#[115, 117, 98]⟩))), (2, 1, (.c (.int .i64 (.lit 6)))), (3, 1, (.c (.int .u32 (.lit 51)))), (4, 1, (.c (.int .u32 (.lit 0)))), (5, 1, (.c (.int .u32 (.lit 32)))), (6, 1, (.c (.int .i64 (.lit 1))))])), none⟩, ⟨(some 30), (.p (.build [(.int .i64 (.lit 0)), (.str ⟨#[]⟩), (.int .i64 (.lit 0)), (.int .u32 (.lit 0)), (.int .u32 (.lit 0)), (.int .u32 (.lit 0)), (.int .i64 (.lit 0))] [(0, 1, (.c (.int .i64 (.lit 30)))), (1, 1, (.c (.str ⟨#[115, 108, 108]⟩))), (2, 1, (.c (.int .i64 (.lit 6)))), (3, 1, (.c (.int .u32 (.lit 51)))), (4, 1, (.c (.int .u32 (.lit 1)))), (5, 1, (.c (.int .u32 (.lit 0)))), (6, 1, (.c (.int .i64 (.lit 1))))])), none⟩, ⟨(some 31), (.p (.build [(.int .i64 (.lit 0)), (.str ⟨#[]⟩), (.int .i64 (.lit 0)), (.int .u32 (.lit 0)), (.int .u32 (.lit 0)), (.int .u32 (.lit 0)), (.int .i64 (.lit 0))] [(0, 1, (.c (.int .i64 (.lit 31)))), (1, 1, (.c (.str ⟨#[115, 108, 116]⟩))), (2, 1, (.c (.int .i64 (.lit 6)))), (3, 1, (.c (.int .u32 (.lit 51)))), (4, 1, (.c (.int .u32 (.lit 2)))), (5, 1, (.c (.int .u32 (.lit 0)))), (6, 1, (.c (.int .i64 (.lit 1))))])), none⟩, ⟨(some 32), (.p (.build [(.int .i64 (.lit 0)), (.str ⟨#[]⟩), (.int .i64 (.lit 0)), (.int .u32 (.lit 0)), (.int .u32 (.lit 0)), (.int .u32 (.lit 0)), (.int .i64 (.lit 0))] [(0, 1, (.c (.int .i64 (.lit 32)))), (1, 1, (.c (.str ⟨#[115, 108, 116, 117]⟩))), (2, 1, (.c (.int .i64 (.lit 6)))), (3, 1, (.c (.int .u32 (.lit 51)))), (4, 1, (.c (.int .u32 (.lit 3)))), (5, 1, (.c (.int .u32 (.lit 0)))), (6, 1, (.c (.int .i64 (.lit 1))))])), none⟩, ⟨(some 33), (.p (.build [(.int .i64 (.lit 0)), (.str ⟨#[]⟩), (.int .i64 (.lit 0)), (.int .u32 (.lit 0)), (.int .u32 (.lit 0)), (.int .u32 (.lit 0)), (.int .i64 (.lit 0))] [(0, 1, (.c (.int .i64 (.lit 33)))), (1, 1, (.c (.str ⟨#[120, 111, 114]⟩))), (2, 1, (.c (.int .i64 (.lit 6)))), (3, 1, (.c (.int .u32 (.lit 51)))), (4, 1, (.c (.int .u32 (.lit 4)))), (5, 1, (.c (.int .u32 (.lit 0)))), (6, 1, (.c (.int .i64 (.lit 1))))])), none⟩, ⟨(some 34), (.p (.build [(.int .i64 (.lit 0)), (.str ⟨#[]⟩), (.int .i64 (.lit 0)), (.int .u32 (.lit 0)), (.int .u32 (.lit 0)), (.int .u32 (.lit 0)), (.int .i64 (.lit 0))] [(0, 1, (.c (.int .i64 (.lit 34)))), (1, 1, (.c (.str ⟨#[115, 114, 108]⟩))), (2, 1, (.c (.int .i64 (.lit 6)))), (3, 1, (.c (.int .u32 (.lit 51)))), (4, 1, (.c (.int .u32 (.lit 5)))), (5, 1, (.c (.int .u32 (.lit 0)))), (6, 1, (.c (.int .i64 (.lit 1))))])), none⟩, ⟨(some 35), (.p (.build [(.int .i64 (.lit 0)), (.str ⟨#[]⟩), (.int .i64 (.lit 0)), (.int .u32 (.lit 0)), (.int .u32 (.lit 0)), (.int .u32 (.lit 0)), (.int .i64 (.lit 0))] [(0, 1, (.c (.int .i64 (.lit 35)))), (1, 1, (.c (.str ⟨#[115, 114, 97]⟩))), (2, 1, (.c (.int .i64 (.lit 6)))), (3, 1, (.c (.int .u32 (.lit 51)))), (4, 1, (.c (.int .u32 (.lit 5)))), (5, 1, (.c (.int .u32 (.lit 32)))), (6, 1, (.c (.int .i64 (.lit 1))))])), none⟩, ⟨(some 36), (.p (.build [(.int .i64 (.lit 0)), (.str ⟨#[]⟩), (.int .i64 (.lit 0)), (.int .u32 (.lit 0)), (.int .u32 (.lit 0)), (.int .u32 (.lit 0)), (.int .i64 (.lit 0))] [(0, 1, (.c (.int .i64 (.lit 36)))), (1, 1, (.c (.str ⟨#[111, 114]⟩))), (2, 1, (.c (.int .i64 (.lit 6)))), (3, 1, (.c (.int .u32 (.lit 51)))), (4, 1, (.c (.int .u32 (.lit 6)))), (5, 1, (.c (.int .u32 (.lit 0)))), (6, 1, (.c (.int .i64 (.lit 1))))])), none⟩, ⟨(some 37), (.p (.build [(.int .i64 (.lit 0)), (.str ⟨#[]⟩), (.int .i64 (.lit 0)), (.int .u32 (.lit 0)), (.int .u32 (.lit 0)), (.int .u32 (.lit 0)), (.int .i64 (.lit 0))] [(0, 1, (.c (.int .i64 (.lit 37)))), (1, 1, (.c (.str ⟨#[97, 110, 100]⟩))), (2, 1, (.c (.int .i64 (.lit 6)))), (3, 1, (.c (.int .u32 (.lit 51)))), (4, 1, (.c (.int .u32 (.lit 7)))), (5, 1, (.c (.int .u32 (.lit 0)))), (6, 1, (.c (.int .i64 (.lit 1))))])), none⟩, ⟨(some 38), (.p (.build [(.int .i64 (.lit 0)), (.str ⟨#[]⟩), (.int .i64 (.lit 0)), (.int .u32 (.lit 0)), (.int .u32 (.lit 0)), (.int .u32 (.lit 0)), (.int .i64 (.lit 0))] [(0, 1, (.c (.int .i64 (.lit 38)))), (1, 1, (.c (.str ⟨#[102, 101, 110, 99, 101]⟩))), (2, 1, (.c (.int .i64 (.lit 7)))), (3, 1, (.c (.int .u32 (.lit 15)))), (4, 1, (.c (.int .u32 (.lit 0)))), (5, 1, (.c (.int .u32 (.lit 0)))), (6, 1, (.c (.int .i64 (.lit 7))))])), none⟩, ⟨(some 39), (.p (.build [(.int .i64 (.lit 0)), (.str ⟨#[]⟩), (.int .i64 (.lit 0)), (.int .u32 (.lit 0)), (.int .u32 (.lit 0)), (.int .u32 (.lit 0)), (.int .i64 (.lit 0))] [(0, 1, (.c (.int .i64 (.lit 39)))), (1, 1, (.c (.str ⟨#[102, 101, 110, 99, 101, 46, 105]⟩))), (2, 1, (.c (.int .i64 (.lit 8)))), (3, 1, (.c (.int .u32 (.lit 4111)))), (4, 1, (.c (.int .u32 (.lit 0)))), (5, 1, (.c (.int .u32 (.lit 0)))), (6, 1, (.c (.int .i64 (.lit 7))))])), none⟩, ⟨(some 40), (.p (.build [(.int .i64 (.lit 0)), (.str ⟨#[]⟩), (.int .i64 (.lit 0)), (.int .u32 (.lit 0)), (.int .u32 (.lit 0)), (.int .u32 (.lit 0)), (.int .i64 (.lit 0))] [(0, 1, (.c (.int .i64 (.lit 40)))), (1, 1, (.c (.str ⟨#[101, 99, 97, 108, 108]⟩))), (2, 1, (.c (.int .i64 (.lit 8)))), (3, 1, (.c (.int .u32 (.lit 115)))), (4, 1, (.c (.int .u32 (.lit 0)))), (5, 1, (.c (.int .u32 (.lit 0)))), (6, 1, (.c (.int .i64 (.lit 7))))])), none⟩, ⟨(some 41), (.p (.build [(.int .i64 (.lit 0)), (.str ⟨#[]⟩), (.int .i64 (.lit 0)), (.int .u32 (.lit 0)), (.int .u32 (.lit 0)), (.int .u32 (.lit 0)), (.int .i64 (.lit 0))] [(0, 1, (.c (.int .i64 (.lit 41)))), (1, 1, (.c (.str ⟨#[101, 98, 114, 101, 97, 107]⟩))), (2, 1, (.c (.int .i64 (.lit 8)))), (3, 1, (.c (.int .u32 (.lit 1048691)))), (4, 1, (.c (.int .u32 (.lit 0)))), (5, 1, (.c (.int .u32 (.lit 0)))), (6, 1, (.c (.int .i64 (.lit 7))))])), none⟩, ⟨(some 42), (.p (.build [(.int .i64 (.lit 0)), (.str ⟨#[]⟩), (.int .i64 (.lit 0)), (.int .u32 (.lit 0)), (.int .u32 (.lit 0)), (.int .u32 (.lit 0)), (.int .i64 (.lit 0))] [(0, 1, (.c (.int .i64 (.lit 42)))), (1, 1, (.c (.str ⟨#[109, 114, 101, 116]⟩))), (2, 1, (.c (.int .i64 (.lit 8)))), (3, 1, (.c (.int .u32 (.lit 807403635)))), (4, 1, (.c (.int .u32 (.lit 0)))), (5, 1, (.c (.int .u32 (.lit 0)))), (6, 1, (.c (.int .i64 (.lit 7))))])), none⟩, ⟨(some 43), (.p (.build [(.int .i64 (.lit 0)), (.str ⟨#[]⟩), (.int .i64 (.lit 0)), (.int .u32 (.lit 0)), (.int .u32 (.lit 0)), (.int .u32 (.lit 0)), (.int .i64 (.lit 0))] [(0, 1, (.c (.int .i64 (.lit 43)))), (1, 1, (.c (.str ⟨#[119, 102, 105]⟩))), (2, 1, (.c (.int .i64 (.lit 8)))), (3, 1, (.c (.int .u32 (.lit 273678451)))), (4, 1, (.c (.int .u32 (.lit 0)))), (5, 1, (.c (.int .u32 (.lit 0)))), (6, 1, (.c (.int .i64 (.lit 7))))])), none⟩, ⟨(some 44), (.p (.build [(.int .i64 (.lit 0)), (.str ⟨#[]⟩), (.int .i64 (.lit 0)), (.int .u32 (.lit 0)), (.int .u32 (.lit 0)), (.int .u32 (.lit 0)), (.int .i64 (.lit 0))] [(0, 1, (.c (.int .i64 (.lit 44)))), (1, 1, (.c (.str ⟨#[115, 102, 101, 110, 99, 101, 46, 118, 109, 97]⟩))), (2, 1, (.c (.int .i64 (.lit 9)))), (3, 1, (.c (.int .u32 (.lit 115)))), (4, 1, (.c (.int .u32 (.lit 0)))), (5, 1, (.c (.int .u32 (.lit 9)))), (6, 1, (.c (.int .i64 (.lit 7))))])), none⟩, ⟨(some 45), (.p (.build [(.int .i64 (.lit 0)), (.str ⟨#[]⟩), (.int .i64 (.lit 0)), (.int .u32 (.lit 0)), (.int .u32 (.lit 0)), (.int .u32 (.lit 0)), (.int .i64 (.lit 0))] [(0, 1, (.c (.int .i64 (.lit 45)))), (1, 1, (.c (.str ⟨#[99, 115, 114, 114, 119]⟩))), (2, 1, (.c (.int .i64 (.lit 10)))), (3, 1, (.c (.int .u32 (.lit 115)))), (4, 1, (.c (.int .u32 (.lit 1)))), (5, 1, (.c (.int .u32 (.lit 0)))), (6, 1, (.c (.int .i64 (.lit 7))))])), none⟩, ⟨(some 46), (.p (.build [(.int .i64 (.lit 0)), (.str ⟨#[]⟩), (.int .i64 (.lit 0)), (.int .u32 (.lit 0)), (.int .u32 (.lit 0)), (.int .u32 (.lit 0)), (.int .i64 (.lit 0))] [(0, 1, (.c (.int .i64 (.lit 46)))), (1, 1, (.c (.str ⟨#[99, 115, 114, 114, 115]⟩))), (2, 1, (.c (.int .i64 (.lit 10)))), (3, 1, (.c (.int .u32 (.lit 115)))), (4, 1, (.c (.int .u32 (.lit 2)))), (5, 1, (.c (.int .u32 (.lit 0)))), (6, 1, (.c (.int .i64 (.lit 7))))])), none⟩, ⟨(some 47), (.p (.build [(.int .i64 (.lit 0)), (.str ⟨#[]⟩), (.int .i64 (.lit 0)), (.int .u32 (.lit 0)), (.int .u32 (.lit 0)), (.int .u32 (.lit 0)), (.int .i64 (.lit 0))] [(0, 1, (.c (.int .i64 (.lit 47)))), (1, 1, (.c (.str ⟨#[99, 115, 114, 114, 99]⟩))), (2, 1, (.c (.int .i64 (.lit 10)))), (3, 1, (.c (.int .u32 (.lit 115)))), (4, 1, (.c (.int .u32 (.lit 3)))), (5, 1, (.c (.int .u32 (.lit 0)))), (6, 1, (.c (.int .i64 (.lit 7))))])), none⟩, ⟨(some 48), (.p (.build [(.int .i64 (.lit 0)), (.str ⟨#[]⟩), (.int .i64 (.lit 0)), (.int .u32 (.lit 0)), (.int .u32 (.lit 0)), (.int .u32 (.lit 0)), (.int .i64 (.lit 0))] [(0, 1, (.c (.int .i64 (.lit 48)))), (1, 1, (.c (.str ⟨#[99, 115, 114, 114, 119, 105]⟩))), (2, 1, (.c (.int .i64 (.lit 11)))), (3, 1, (.c (.int .u32 (.lit 115)))), (4, 1, (.c (.int .u32 (.lit 5)))), (5, 1, (.c (.int .u32 (.lit 0)))), (6, 1, (.c (.int .i64 (.lit 7))))])), none⟩, ⟨(some 49), (.p (.build [(.int .i64 (.lit 0)), (.str ⟨#[]⟩), (.int .i64 (.lit 0)), (.int .u32 (.lit 0)), (.int .u32 (.lit 0)), (.int .u32 (.lit 0)), (.int .i64 (.lit 0))] [(0, 1, (.c (.int .i64 (.lit 49)))), (1, 1, (.c (.str ⟨#[99, 115, 114, 114, 115, 105]⟩))), (2, 1, (.c (.int .i64 (.lit 11)))), (3, 1, (.c (.int .u32 (.lit 115)))), (4, 1, (.c (.int .u32 (.lit 6)))), (5, 1, (.c (.int .u32 (.lit 0)))), (6, 1, (.c (.int .i64 (.lit 7))))])), none⟩, ⟨(some 50), (.p (.build [(.int .i64 (.lit 0)), (.str ⟨#[]⟩), (.int .i64 (.lit 0)), (.int .u32 (.lit 0)), (.int .u32 (.lit 0)), (.int .u32 (.lit 0)), (.int .i64 (.lit 0))] [(0, 1, (.c (.int .i64 (.lit 50)))), (1, 1, (.c (.str ⟨#[99, 115, 114, 114, 99, 105]⟩))), (2, 1, (.c (.int .i64 (.lit 11)))), (3, 1, (.c (.int .u32 (.lit 115)))), (4, 1, (.c (.int .u32 (.lit 7)))), (5, 1, (.c (.int .u32 (.lit 0)))), (6, 1, (.c (.int .i64 (.lit 7))))])), none⟩, ⟨(some 51), (.p (.build [(.int .i64 (.lit 0)), (.str ⟨#[]⟩), (.int .i64 (.lit 0)), (.int .u32 (.lit 0)), (.int .u32 (.lit 0)), (.int .u32 (.lit 0)), (.int .i64 (.lit 0))] [(0, 1, (.c (.int .i64 (.lit 51)))), (1, 1, (.c (.str ⟨#[109, 117, 108]⟩))), (2, 1, (.c (.int .i64 (.lit 6)))), (3, 1, (.c (.int .u32 (.lit 51)))), (4, 1, (.c (.int .u32 (.lit 0)))), (5, 1, (.c (.int .u32 (.lit 1)))), (6, 1, (.c (.int .i64 (.lit 1))))])), none⟩, ⟨(some 52), (.p (.build [(.int .i64 (.lit 0)), (.str ⟨#[]⟩), (.int .i64 (.lit 0)), (.int .u32 (.lit 0)), (.int .u32 (.lit 0)), (.int .u32 (.lit 0)), (.int .i64 (.lit 0))] [(0, 1, (.c (.int .i64 (.lit 52)))), (1, 1, (.c (.str ⟨#[109, 117, 108, 104]⟩))), (2, 1, (.c (.int .i64 (.lit 6)))), (3, 1, (.c (.int .u32 (.lit 51)))), (4, 1, (.c (.int .u32 (.lit 1)))), (5, 1, (.c (.int .u32 (.lit 1)))), (6, 1, (.c (.int .i64 (.lit 1))))])), none⟩, ⟨(some 53), (.p (.build [(.int .i64 (.lit 0)), (.str ⟨#[]⟩), (.int .i64 (.lit 0)), (.int .u32 (.lit 0)), (.int .u32 (.lit 0)), (.int .u32 (.lit 0)), (.int .i64 (.lit 0))] [(0, 1, (.c (.int .i64 (.lit 53)))), (1, 1, (.c (.str ⟨#[109, 117, 108, 104, 115, 117]⟩))), (2, 1, (.c (.int .i64 (.lit 6)))), (3, 1, (.c (.int .u32 (.lit 51)))), (4, 1, (.c (.int .u32 (.lit 2)))), (5, 1, (.c (.int .u32 (.lit 1)))), (6, 1, (.c (.int .i64 (.lit 1))))])), none⟩, ⟨(some 54), (.p (.build [(.int .i64 (.lit 0)), (.str ⟨#[]⟩), (.int .i64 (.lit 0)), (.int .u32 (.lit 0)), (.int .u32 (.lit 0)), (.int .u32 (.lit 0)), (.int .i64 (.lit 0))] [(0, 1, (.c (.int .i64 (.lit 54)))), (1, 1, (.c (.str ⟨#[109, 117, 108, 104, 117]⟩))), (2, 1, (.c (.int .i64 (.lit 6)))), (3, 1, (.c (.int .u32 (.lit 51)))), (4, 1, (.c (.int .u32 (.lit 3)))), (5, 1, (.c (.int .u32 (.lit 1)))), (6, 1, (.c (.int .i64 (.lit 1))))])), none⟩, ⟨(some 55), (.p (.build [(.int .i64 (.lit 0)), (.str ⟨#[]⟩), (.int .i64 (.lit 0)), (.int .u32 (.lit 0)), (.int .u32 (.lit 0)), (.int .u32 (.lit 0)), (.int .i64 (.lit 0))] [(0, 1, (.c (.int .i64 (.lit 55)))), (1, 1, (.c (.str ⟨#[100, 105, 118]⟩))), (2, 1, (.c (.int .i64 (.lit 6)))), (3, 1, (.c (.int .u32 (.lit 51)))), (4, 1, (.c (.int .u32 (.lit 4)))), (5, 1, (.c (.int .u32 (.lit 1)))), (6, 1, (.c (.int .i64 (.lit 1))))])), none⟩, ⟨(some 56), (.p (.build [(.int .i64 (.lit 0)), (.str ⟨#[]⟩), (.int .i64 (.lit 0)), (.int .u32 (.lit 0)), (.int .u32 (.lit 0)), (.int .u32 (.lit 0)), (.int .i64 (.lit 0))] [(0, 1, (.c (.int .i64 (.lit 56)))), (1, 1, (.c (.str ⟨#[100, 105, 118, 117]⟩))), (2, 1, (.c (.int .i64 (.lit 6)))), (3, 1, (.c (.int .u32 (.lit 51)))), (4, 1, (.c (.int .u32 (.lit 5)))), (5, 1, (.c (.int .u32 (.lit 1)))), (6, 1, (.c (.int .i64 (.lit 1))))])), none⟩, ⟨(some 57), (.p (.build [(.int .i64 (.lit 0)), (.str ⟨#[]⟩), (.int .i64 (.lit 0)), (.int .u32 (.lit 0)), (.int .u32 (.lit 0)), (.int .u32 (.lit 0)), (.int .i64 (.lit 0))] [(0, 1, (.c (.int .i64 (.lit 57)))), (1, 1, (.c (.str ⟨#[114, 101, 109]⟩))), (2, 1, (.c (.int .i64 (.lit 6)))), (3, 1, (.c (.int .u32 (.lit 51)))), (4, 1, (.c (.int .u32 (.lit 6)))), (5, 1, (.c (.int .u32 (.lit 1)))), (6, 1, (.c (.int .i64 (.lit 1))))])), none⟩, ⟨(some 58), (.p (.build [(.int .i64 (.lit 0)), (.str ⟨#[]⟩), (.int .i64 (.lit 0)), (.int .u32 (.lit 0)), (.int .u32 (.lit 0)), (.int .u32 (.lit 0)), (.int .i64 (.lit 0))] [(0, 1, (.c (.int .i64 (.lit 58)))), (1, 1, (.c (.str ⟨#[114, 101, 109, 117]⟩))), (2, 1, (.c (.int .i64 (.lit 6)))), (3, 1, (.c (.int .u32 (.lit 51)))), (4, 1, (.c (.int .u32 (.lit 7)))), (5, 1, (.c (.int .u32 (.lit 1)))), (6, 1, (.c (.int .i64 (.lit 1))))])), none⟩, ⟨(some 59), (.p (.build [(.int .i64 (.lit 0)), (.str ⟨#[]⟩), (.int .i64 (.lit 0)), (.int .u32 (.lit 0)), (.int .u32 (.lit 0)), (.int .u32 (.lit 0)), (.int .i64 (.lit 0))] [(0, 1, (.c (.int .i64 (.lit 59)))), (1, 1, (.c (.str ⟨#[108, 114, 46, 119]⟩))), (2, 1, (.c (.int .i64 (.lit 12)))), (3, 1, (.c (.int .u32 (.lit 47)))), (4, 1, (.c (.int .u32 (.lit 2)))), (5, 1, (.c (.int .u32 (.lit 2)))), (6, 1, (.c (.int .i64 (.lit 4))))])), none⟩, ⟨(some 60), (.p (.build [(.int .i64 (.lit 0)), (.str ⟨#[]⟩), (.int .i64 (.lit 0)), (.int .u32 (.lit 0)), (.int .u32 (.lit 0)), (.int .u32 (.lit 0)), (.int .i64 (.lit 0))] [(0, 1, (.c (.int .i64 (.lit 60)))), (1, 1, (.c (.str ⟨#[115, 99, 46, 119]⟩))), (2, 1, (.c (.int .i64 (.lit 13)))), (3, 1, (.c (.int .u32 (.lit 47)))), (4, 1, (.c (.int .u32 (.lit 2)))), (5, 1, (.c (.int .u32 (.lit 3)))), (6, 1, (.c (.int .i64 (.lit 6))))])), none⟩, ⟨(some 61), (.p (.build [(.int .i64 (.lit 0)), (.str ⟨#[]⟩), (.int .i64 (.lit 0)), (.int .u32 (.lit 0)), (.int .u32 (.lit 0)), (.int .u32 (.lit 0)), (.int .i64 (.lit 0))] [(0, 1, (.c (.int .i64 (.lit 61)))), (1, 1, (.c (.str ⟨#[97, 109, 111, 115, 119, 97, 112, 46, 119]⟩))), (2, 1, (.c (.int .i64 (.lit 13)))), (3, 1, (.c (.int .u32 (.lit 47)))), (4, 1, (.c (.int .u32 (.lit 2)))), (5, 1, (.c (.int .u32 (.lit 1)))), (6, 1, (.c (.int .i64 (.lit 6))))])), none⟩, ⟨(some 62), (.p (.build [(.int .i64 (.lit 0)), (.str ⟨#[]⟩), (.int .i64 (.lit 0)), (.int .u32 (.lit 0)), (.int .u32 (.lit 0)), (.int .u32 (.lit 0)), (.int .i64 (.lit 0))] [(0, 1, (.c (.int .i64 (.lit 62)))), (1, 1, (.c (.str ⟨#[97, 109, 111, 97, 100, 100, 46, 119]⟩))), (2, 1, (.c (.int .i64 (.lit 13)))), (3, 1, (.c (.int .u32 (.lit 47)))), (4, 1, (.c (.int .u32 (.lit 2)))), (5, 1, (.c (.int .u32 (.lit 0)))), (6, 1, (.c (.int .i64 (.lit 6))))])), none⟩, ⟨(some 63), (.p (.build [(.int .i64 (.lit 0)), (.str ⟨#[]⟩), (.int .i64 (.lit 0)), (.int .u32 (.lit 0)), (.int .u32 (.lit 0)), (.int .u32 (.lit 0)), (.int .i64 (.lit 0))] [(0, 1, (.c (.int .i64 (.lit 63)))), (1, 1, (.c (.str ⟨#[97, 109, 111, 120, 111, 114, 46, 119]⟩))), (2, 1, (.c (.int .i64 (.lit 13)))), (3, 1, (.c (.int .u32 (.lit 47)))), (4, 1, (.c (.int .u32 (.lit 2)))), (5, 1, (.c (.int .u32 (.lit 4)))), (6, 1, (.c (.int .i64 (.lit 6))))])), none⟩, ⟨(some 64), (.p (.build [(.int .i64 (.lit 0)), (.str ⟨#[]⟩), (.int .i64 (.lit 0)), (.int .u32 (.lit 0)), (.int .u32 (.lit 0)), (.int .u32 (.lit 0)), (.int .i64 (.lit 0))] [(0, 1, (.c (.int .i64 (.lit 64)))), (1, 1, (.c (.str ⟨#[97, 109, 111, 97, 110, 100, 46, 119]⟩))), (2, 1, (.c (.int .i64 (.lit 13)))), (3, 1, (.c (.int .u32 (.lit 47)))), (4, 1, (.c (.int .u32 (.lit 2)))), (5, 1, (.c (.int .u32 (.lit 12)))), (6, 1, (.c (.int .i64 (.lit 6))))])), none⟩, ⟨(some 65), (.p (.build [(.int .i64 (.lit 0)), (.str ⟨#[]⟩), (.int .i64 (.lit 0)), (.int .u32 (.lit 0)), (.int .u32 (.lit 0)), (.int .u32 (.lit 0)), (.int .i64 (.lit 0))] [(0, 1, (.c (.int .i64 (.lit 65)))), (1, 1, (.c (.str ⟨#[97, 109, 111, 111, 114, 46, 119]⟩))), (2, 1, (.c (.int .i64 (.lit 13)))), (3, 1, (.c (.int .u32 (.lit 47)))), (4, 1, (.c (.int .u32 (.lit 2)))), (5, 1, (.c (.int .u32 (.lit 8)))), (6, 1, (.c (.int .i64 (.lit 6))))])), none⟩, ⟨(some 66), (.p (.build [(.int .i64 (.lit 0)), (.str ⟨#[]⟩), (.int .i64 (.lit 0)), (.int .u32 (.lit 0)), (.int .u32 (.lit 0)), (.int .u32 (.lit 0)), (.int .i64 (.lit 0))] [(0, 1, (.c (.int .i64 (.lit 66)))), (1, 1, (.c (.str ⟨#[97, 109, 111, 109, 105, 110, 46, 119]⟩))), (2, 1, (.c (.int .i64 (.lit 13)))), (3, 1, (.c (.int .u32 (.lit 47)))), (4, 1, (.c (.int .u32 (.lit 2)))), (5, 1, (.c (.int .u32 (.lit 16)))), (6, 1, (.c (.int .i64 (.lit 6))))])), none⟩, ⟨(some 67), (.p (.build [(.int .i64 (.lit 0)), (.str ⟨#[]⟩), (.int .i64 (.lit 0)), (.int .u32 (.lit 0)), (.int .u32 (.lit 0)), (.int .u32 (.lit 0)), (.int .i64 (.lit 0))] [(0, 1, (.c (.int .i64 (.lit 67)))), (1, 1, (.c (.str ⟨#[97, 109, 111, 109, 97, 120, 46, 119]⟩))), (2, 1, (.c (.int .i64 (.lit 13)))), (3, 1, (.c (.int .u32 (.lit 47)))), (4, 1, (.c (.int .u32 (.lit 2)))), (5, 1, (.c (.int .u32 (.lit 20)))), (6, 1, (.c (.int .i64 (.lit 6))))])), none⟩, ⟨(some 68), (.p (.build [(.int .i64 (.lit 0)), (.str ⟨#[]⟩), (.int .i64 (.lit 0)), (.int .u32 (.lit 0)), (.int .u32 (.lit 0)), (.int .u32 (.lit 0)), (.int .i64 (.lit 0))] [(0, 1, (.c (.int .i64 (.lit 68)))), (1, 1, (.c (.str ⟨#[97, 109, 111, 109, 105, 110, 117, 46, 119]⟩))), (2, 1, (.c (.int .i64 (.lit 13)))), (3, 1, (.c (.int .u32 (.lit 47)))), (4, 1, (.c (.int .u32 (.lit 2)))), (5, 1, (.c (.int .u32 (.lit 24)))), (6, 1, (.c (.int .i64 (.lit 6))))])), none⟩, ⟨(some 69), (.p (.build [(.int .i64 (.lit 0)), (.str ⟨#[]⟩), (.int .i64 (.lit 0)), (.int .u32 (.lit 0)), (.int .u32 (.lit 0)), (.int .u32 (.lit 0)), (.int .i64 (.lit 0))] [(0, 1, (.c (.int .i64 (.lit 69)))), (1, 1, (.c (.str ⟨#[97, 109, 111, 109, 97, 120, 117, 46, 119]⟩))), (2, 1, (.c (.int .i64 (.lit 13)))), (3, 1, (.c (.int .u32 (.lit 47)))), (4, 1, (.c (.int .u32 (.lit 2)))), (5, 1, (.c (.int .u32 (.lit 28)))), (6, 1, (.c (.int .i64 (.lit 6))))])), none⟩, ⟨(some 70), (.mkArr 7 69 [(.int .i64 (.lit 0)), (.str ⟨#[]⟩), (.int .i64 (.lit 0)), (.int .u32 (.lit 0)), (.int .u32 (.lit 0)), (.int .u32 (.lit 0)), (.int .i64 (.lit 0))] [(0, 7, (.t 1)), (7, 7, (.t 2)), (14, 7, (.t 3)), (21, 7, (.t 4)), (28, 7, (.t 5)), (35, 7, (.t 6)), (42, 7, (.t 7)), (49, 7, (.t 8)), (56, 7, (.t 9)), (63, 7, (.t 10)), (70, 7, (.t 11)), (77, 7, (.t 12)), (84, 7, (.t 13)), (91, 7, (.t 14)), (98, 7, (.t 15)), (105, 7, (.t 16)), (112, 7, (.t 17)), (119, 7, (.t 18)), (126, 7, (.t 19)), (133, 7, (.t 20)), (140, 7, (.t 21)), (147, 7, (.t 22)), (154, 7, (.t 23)), (161, 7, (.t 24)), (168, 7, (.t 25)), (175, 7, (.t 26)), (182, 7, (.t 27)), (189, 7, (.t 28)), (196, 7, (.t 29)), (203, 7, (.t 30)), (210, 7, (.t 31)), (217, 7, (.t 32)), (224, 7, (.t 33)), (231, 7, (.t 34)), (238, 7, (.t 35)), (245, 7, (.t 36)), (252, 7, (.t 37)), (259, 7, (.t 38)), (266, 7, (.t 39)), (273, 7, (.t 40)), (280, 7, (.t 41)), (287, 7, (.t 42)), (294, 7, (.t 43)), (301, 7, (.t 44)), (308, 7, (.t 45)), (315, 7, (.t 46)), (322, 7, (.t 47)), (329, 7, (.t 48)), (336, 7, (.t 49)), (343, 7, (.t 50)), (350, 7, (.t 51)), (357, 7, (.t 52)), (364, 7, (.t 53)), (371, 7, (.t 54)), (378, 7, (.t 55)), (385, 7, (.t 56)), (392, 7, (.t 57)), (399, 7, (.t 58)), (406, 7, (.t 59)), (413, 7, (.t 60)), (420, 7, (.t 61)), (427, 7, (.t 62)), (434, 7, (.t 63)), (441, 7, (.t 64)), (448, 7, (.t 65)), (455, 7, (.t 66)), (462, 7, (.t 67)), (469, 7, (.t 68)), (476, 7, (.t 69))]), none⟩, ⟨(some 0), (.p (.mv (.t 70))), none⟩])
 .ret))⟩
def F : Nat → Option AFunc
  | 7 => some af7
  | 29 => some af29
  | 30 => some af30
  | 31 => some af31
  | 32 => some af32
  | 34 => some af34
  | 39 => some af39
  | 58 => some af58
  | 59 => some af59
  | 60 => some af60
  | 61 => some af61
  | 62 => some af62
  | 63 => some af63
  | 64 => some af64
  | 65 => some af65
  | 66 => some af66
  | 67 => some af67
  | 68 => some af68
  | 69 => some af69
  | 82 => some af82
  | 83 => some af83
  | 84 => some af84
  | 87 => some af87
  | _ => none
theorem cf7 : cFunc Try.prog 7 = some af7 := by kernel_rfl
theorem cf29 : cFunc Try.prog 29 = some af29 := by kernel_rfl
theorem cf30 : cFunc Try.prog 30 = some af30 := by kernel_rfl
theorem cf31 : cFunc Try.prog 31 = some af31 := by kernel_rfl
theorem cf32 : cFunc Try.prog 32 = some af32 := by kernel_rfl
theorem cf34 : cFunc Try.prog 34 = some af34 := by kernel_rfl
theorem cf39 : cFunc Try.prog 39 = some af39 := by kernel_rfl
theorem cf58 : cFunc Try.prog 58 = some af58 := by kernel_rfl
theorem cf59 : cFunc Try.prog 59 = some af59 := by kernel_rfl
theorem cf60 : cFunc Try.prog 60 = some af60 := by kernel_rfl
theorem cf61 : cFunc Try.prog 61 = some af61 := by kernel_rfl
theorem cf62 : cFunc Try.prog 62 = some af62 := by kernel_rfl
theorem cf63 : cFunc Try.prog 63 = some af63 := by kernel_rfl
theorem cf64 : cFunc Try.prog 64 = some af64 := by kernel_rfl
theorem cf65 : cFunc Try.prog 65 = some af65 := by kernel_rfl
theorem cf66 : cFunc Try.prog 66 = some af66 := by kernel_rfl
theorem cf67 : cFunc Try.prog 67 = some af67 := by kernel_rfl
theorem cf68 : cFunc Try.prog 68 = some af68 := by kernel_rfl
theorem cf69 : cFunc Try.prog 69 = some af69 := by kernel_rfl
theorem cf82 : cFunc Try.prog 82 = some af82 := by kernel_rfl
theorem cf83 : cFunc Try.prog 83 = some af83 := by kernel_rfl
theorem cf84 : cFunc Try.prog 84 = some af84 := by kernel_rfl
theorem cf87 : cFunc Try.prog 87 = some af87 := by kernel_rfl
theorem hF : ∀ f af, F f = some af → cFunc Try.prog f = some af := by
  intro f af h
  unfold F at h
  split at h
  · cases h; exact cf7
  · cases h; exact cf29
  · cases h; exact cf30
  · cases h; exact cf31
  · cases h; exact cf32
  · cases h; exact cf34
  · cases h; exact cf39
  · cases h; exact cf58
  · cases h; exact cf59
  · cases h; exact cf60
  · cases h; exact cf61
  · cases h; exact cf62
  · cases h; exact cf63
  · cases h; exact cf64
  · cases h; exact cf65
  · cases h; exact cf66
  · cases h; exact cf67
  · cases h; exact cf68
  · cases h; exact cf69
  · cases h; exact cf82
  · cases h; exact cf83
  · cases h; exact cf84
  · cases h; exact cf87
  · cases h
theorem mixed : Try.prog.follows .mixedOrders = true := Try.checked.mixed
end Go.Proofs.Ytagaclifeoiepaa.aluMuls

/- The functions that HomeAlone comes to, as the symbolic machine runs them, each held against the program's. No condition. -/
import Derived.Test.YtagaclifeoiepaaRows
import Derived.Test.YtagaclifeoiepaaSyDoor
import Derived.Test.YtagaclifeoiepaaSyUse
namespace Go.Proofs.Ytagaclifeoiepaa.homeAlone
open Go.Sx
set_option linter.unusedVariables false
set_option linter.unusedSimpArgs false
set_option maxRecDepth 1000000
/- corral/corrallaw18.HomeAlone -/
def af3 : AFunc := ⟨263, [.t 4],
 (.seq (.reg [⟨(some 3), (.box 4 (.t 1)), none⟩, ⟨(some 4), (.p (.mv (.c (.bool (.lit false))))), none⟩])
 (.seq (.reg [⟨(some 20), (.call (.f 13) []), none⟩, ⟨(some 5), (.p (.mv (.t 20))), none⟩])
 (.seq (.seq (.reg [⟨(some 21), (.p (.mv (.t 5))), none⟩, ⟨(some 22), (.p (.un .not (.t 21))), none⟩])
 (.cond (.t 22) (.seq (.reg [⟨(some 4), (.p (.mv (.c (.bool (.lit false))))), none⟩])
 .ret)
 .skip))
 (.seq (.seq (.reg [⟨(some 23), (.p (.mv (.t 0))), none⟩, ⟨(some 24), (.p (.lenS (.t 23))), none⟩, ⟨(some 25), (.p (.bin 0 .gtr (.t 24) (.c (.int .i64 (.lit 60))))), none⟩, ⟨(some 26), (.p (.mv (.t 25))), none⟩, ⟨(some 27), (.p (.mv (.t 5))), (some (26, false))⟩, ⟨(some 28), (.p (.un .not (.t 27))), (some (26, false))⟩, ⟨(some 29), (.pick (.t 26) (.c (.bool (.lit true))) (.t 28)), none⟩])
 (.cond (.t 29) (.seq (.reg [⟨(some 30), (.p (.mv (.t 5))), none⟩, ⟨(some 4), (.p (.mv (.t 30))), none⟩])
 .ret)
 .skip))
 (.seq (.reg [⟨(some 31), (.load true 4 (.t 3)), none⟩, ⟨(some 32), (.call (.f 14) [(.c (.int .i64 (.lit 0))), (.c (.int .i64 (.lit 4))), (.t 31)]), none⟩, ⟨(some 6), (.p (.mv (.t 32))), none⟩])
 (.seq (.seq (.reg [⟨(some 33), (.p (.mv (.t 6))), none⟩, ⟨(some 34), (.p (.nilEq 0 false (.t 33) (.c .nilPtr))), none⟩])
 (.cond (.t 34) (.seq (.reg [⟨(some 4), (.p (.mv (.c (.bool (.lit false))))), none⟩])
 .ret)
 .skip))
 (.seq (.reg [⟨(some 35), (.mkSl 1 8 [(.int .i64 (.lit 0))] (.c (.int .i64 (.lit 4))) (.c (.int .i64 (.lit 4)))), none⟩, ⟨(some 7), (.p (.mv (.t 35))), none⟩])
 (.seq (.reg [⟨(some 36), (.load true 4 (.t 3)), none⟩, ⟨(some 8), (.newC [(.int .u32 (.lit 0)), (.int .u32 (.lit 0)), (.int .u32 (.lit 0)), (.int .u32 (.lit 0))]), none⟩, ⟨none, (.store 4 (.t 8) (.t 36)), none⟩])
 (.seq (.seq (.reg [⟨(some 9), (.p (.mv (.c (.int .i64 (.lit 0))))), none⟩])
 (.block 0 (.loop (.seq (.seq (.reg [⟨(some 37), (.p (.mv (.t 9))), none⟩, ⟨(some 38), (.p (.mv (.t 0))), none⟩, ⟨(some 39), (.p (.lenS (.t 38))), none⟩, ⟨(some 40), (.p (.bin 0 .lss (.t 37) (.t 39))), none⟩])
 (.cond (.t 40) .skip
 (.exit 0)))
 (.seq (.block 1 (.seq (.reg [⟨(some 43), (.p (.mv (.t 0))), none⟩, ⟨(some 44), (.p (.mv (.t 9))), none⟩, ⟨(some 45), (.p (.idxSl 1 (.t 43) (.t 44))), none⟩, ⟨(some 46), (.load false 1 (.t 45)), none⟩, ⟨(some 47), (.p (.bin 0 .and (.t 46) (.c (.int .i64 (.lit 3))))), none⟩, ⟨(some 10), (.p (.mv (.t 47))), none⟩])
 (.seq (.reg [⟨(some 48), (.p (.mv (.t 0))), none⟩, ⟨(some 49), (.p (.mv (.t 9))), none⟩, ⟨(some 50), (.p (.idxSl 1 (.t 48) (.t 49))), none⟩, ⟨(some 51), (.load false 1 (.t 50)), none⟩, ⟨(some 52), (.p (.bin 0 .shr (.t 51) (.c (.int .u64 (.lit 2))))), none⟩, ⟨(some 53), (.p (.bin 0 .and (.t 52) (.c (.int .i64 (.lit 1))))), none⟩, ⟨(some 54), (.p (.bin 0 .eql (.t 53) (.c (.int .i64 (.lit 1))))), none⟩, ⟨(some 11), (.p (.mv (.t 54))), none⟩])
 (.seq (.seq (.reg [⟨(some 55), (.p (.mv (.t 7))), none⟩, ⟨(some 56), (.p (.mv (.t 10))), none⟩, ⟨(some 57), (.p (.idxSl 1 (.t 55) (.t 56))), none⟩, ⟨(some 58), (.load false 1 (.t 57)), none⟩, ⟨(some 59), (.p (.bin 0 .eql (.t 58) (.c (.int .i64 (.lit 4))))), none⟩, ⟨(some 60), (.p (.mv (.t 59))), none⟩, ⟨(some 61), (.p (.mv (.t 7))), (some (60, false))⟩, ⟨(some 62), (.p (.mv (.t 10))), (some (60, false))⟩, ⟨(some 63), (.p (.idxSl 1 (.t 61) (.t 62))), (some (60, false))⟩, ⟨(some 64), (.load false 1 (.t 63)), (some (60, false))⟩, ⟨(some 65), (.p (.bin 0 .eql (.t 64) (.c (.int .i64 (.lit 2))))), (some (60, false))⟩, ⟨(some 66), (.pick (.t 60) (.c (.bool (.lit true))) (.t 65)), none⟩, ⟨(some 67), (.p (.mv (.t 66))), none⟩, ⟨(some 68), (.p (.mv (.t 11))), (some (67, false))⟩, ⟨(some 69), (.p (.un .not (.t 68))), (some (67, false))⟩, ⟨(some 70), (.p (.mv (.t 69))), (some (67, false))⟩, ⟨(some 71), (.p (.mv (.t 7))), (some (70, true))⟩, ⟨(some 72), (.p (.mv (.t 10))), (some (70, true))⟩, ⟨(some 73), (.p (.idxSl 1 (.t 71) (.t 72))), (some (70, true))⟩, ⟨(some 74), (.load false 1 (.t 73)), (some (70, true))⟩, ⟨(some 75), (.p (.bin 0 .neq (.t 74) (.c (.int .i64 (.lit 0))))), (some (70, true))⟩, ⟨(some 76), (.pick (.t 70) (.t 75) (.c (.bool (.lit false)))), (some (67, false))⟩, ⟨(some 77), (.pick (.t 67) (.c (.bool (.lit true))) (.t 76)), none⟩])
 (.cond (.t 77) (.exit 1)
 .skip))
 (.seq (.reg [⟨(some 12), (.p (.mv (.c (.int .i64 (.lit 1))))), none⟩])
 (.seq (.seq (.reg [⟨(some 78), (.p (.mv (.t 11))), none⟩])
 (.cond (.t 78) (.reg [⟨(some 12), (.p (.mv (.c (.int .i64 (.lit 2))))), none⟩])
 .skip))
 (.seq (.reg [⟨(some 79), (.p (.mv (.t 6))), none⟩, ⟨(some 80), (.p (.mv (.t 12))), none⟩, ⟨(some 81), (.p (.mv (.t 10))), none⟩, ⟨(some 82), (.p (.build [(.int .i64 (.lit 0)), (.int .i64 (.lit 0)), (.int .i64 (.lit 0)), (.int .i64 (.lit 0)), (.int .u32 (.lit 0)), (.int .u32 (.lit 0)), (.int .u32 (.lit 0)), (.int .u32 (.lit 0)), (.bool (.lit false)), (.bool (.lit false)), (.bool (.lit false))] [(0, 1, (.t 80)), (2, 1, (.t 81)), (3, 1, (.c (.int .i64 (.lit (-1)))))])), none⟩, ⟨(some 83), (.call (.f 15) [(.t 79), (.t 82)]), none⟩, ⟨(some 13), (.p (.mv (.t 83))), none⟩])
 (.seq (.reg [⟨(some 14), (.p (.mv (.c (.bool (.lit false))))), none⟩])
 (.seq (.seq (.reg [⟨(some 15), (.p (.mv (.c (.int .i64 (.lit 0))))), none⟩])
 (.block 2 (.loop (.seq (.seq (.reg [⟨(some 84), (.p (.mv (.t 15))), none⟩, ⟨(some 85), (.p (.bin 0 .lss (.t 84) (.c (.int .i64 (.lit 10))))), none⟩, ⟨(some 86), (.p (.mv (.t 85))), none⟩, ⟨(some 87), (.p (.mv (.t 13))), (some (86, true))⟩, ⟨(some 88), (.p (.lenS (.t 87))), (some (86, true))⟩, ⟨(some 89), (.p (.bin 0 .gtr (.t 88) (.c (.int .i64 (.lit 0))))), (some (86, true))⟩, ⟨(some 90), (.pick (.t 86) (.t 89) (.c (.bool (.lit false)))), none⟩])
 (.cond (.t 90) .skip
 (.exit 2)))
 (.seq (.block 3 (.seq (.reg [⟨(some 93), (.p (.mv (.t 13))), none⟩, ⟨(some 94), (.p (.idxSl 11 (.t 93) (.c (.int .i64 (.lit 0))))), none⟩, ⟨(some 95), (.load true 11 (.t 94)), none⟩, ⟨(some 16), (.newC [(.int .i64 (.lit 0)), (.int .i64 (.lit 0)), (.int .i64 (.lit 0)), (.int .i64 (.lit 0)), (.int .u32 (.lit 0)), (.int .u32 (.lit 0)), (.int .u32 (.lit 0)), (.int .u32 (.lit 0)), (.bool (.lit false)), (.bool (.lit false)), (.bool (.lit false))]), none⟩, ⟨none, (.store 11 (.t 16) (.t 95)), none⟩])
 (.seq (.reg [⟨(some 96), (.p (.mv (.t 13))), none⟩, ⟨(some 97), (.p (.slice 11 (.t 96) (some (.c (.int .i64 (.lit 1)))) none)), none⟩, ⟨(some 13), (.p (.mv (.t 97))), none⟩])
 (.seq (.reg [⟨(some 98), (.p (.fieldAddr 3 (.t 16))), none⟩, ⟨(some 99), (.load false 1 (.t 98)), none⟩, ⟨(some 100), (.p (.build [(.int .i64 (.lit 0)), (.int .i64 (.lit 0)), (.int .i64 (.lit 0)), (.int .i64 (.lit 0)), (.int .u32 (.lit 0)), (.int .u32 (.lit 0)), (.int .u32 (.lit 0)), (.int .u32 (.lit 0)), (.bool (.lit false)), (.bool (.lit false)), (.bool (.lit false))] [(2, 1, (.t 99)), (3, 1, (.c (.int .i64 (.lit (-1)))))])), none⟩, ⟨(some 17), (.newC [(.int .i64 (.lit 0)), (.int .i64 (.lit 0)), (.int .i64 (.lit 0)), (.int .i64 (.lit 0)), (.int .u32 (.lit 0)), (.int .u32 (.lit 0)), (.int .u32 (.lit 0)), (.int .u32 (.lit 0)), (.bool (.lit false)), (.bool (.lit false)), (.bool (.lit false))]), none⟩, ⟨none, (.store 11 (.t 17) (.t 100)), none⟩])
 (.seq (.reg [⟨(some 101), (.p (.fieldAddr 3 (.t 16))), none⟩, ⟨(some 102), (.load false 1 (.t 101)), none⟩, ⟨(some 18), (.p (.mv (.t 102))), none⟩])
 (.seq (.seq (.reg [⟨(some 103), (.p (.mv (.t 18))), none⟩, ⟨(some 104), (.p (.bin 0 .lss (.t 103) (.c (.int .i64 (.lit 0))))), none⟩, ⟨(some 105), (.p (.mv (.t 104))), none⟩, ⟨(some 106), (.p (.mv (.t 18))), (some (105, false))⟩, ⟨(some 107), (.p (.bin 0 .gtr (.t 106) (.c (.int .i64 (.lit 3))))), (some (105, false))⟩, ⟨(some 108), (.pick (.t 105) (.c (.bool (.lit true))) (.t 107)), none⟩])
 (.cond (.t 108) (.seq (.reg [⟨(some 4), (.p (.mv (.c (.bool (.lit false))))), none⟩])
 .ret)
 .skip))
 (.seq (.seq (.reg [⟨(some 109), (.p (.fieldAddr 0 (.t 16))), none⟩, ⟨(some 110), (.load false 1 (.t 109)), none⟩])
 (.block 4 (.seq (.reg [⟨(some 112), (.p (.bin 0 .eql (.t 110) (.c (.int .i64 (.lit 4))))), none⟩, ⟨(some 111), (.p (.mv (.t 112))), none⟩])
 (.cond (.t 111) (.seq (.reg [⟨(some 113), (.p (.fieldAddr 0 (.t 17))), none⟩, ⟨none, (.store 1 (.t 113) (.c (.int .i64 (.lit 10)))), none⟩])
 (.reg [⟨(some 114), (.p (.mv (.t 7))), none⟩, ⟨(some 115), (.p (.mv (.t 18))), none⟩, ⟨(some 116), (.p (.idxSl 1 (.t 114) (.t 115))), none⟩, ⟨none, (.store 1 (.t 116) (.c (.int .i64 (.lit 0)))), none⟩]))
 (.seq (.seq (.reg [⟨(some 118), (.p (.bin 0 .eql (.t 110) (.c (.int .i64 (.lit 5))))), none⟩, ⟨(some 117), (.p (.mv (.t 118))), none⟩])
 (.cond (.t 117) .skip
 (.reg [⟨(some 119), (.p (.bin 0 .eql (.t 110) (.c (.int .i64 (.lit 6))))), none⟩, ⟨(some 117), (.p (.mv (.t 119))), none⟩])))
 (.cond (.t 117) (.seq (.reg [⟨(some 120), (.p (.fieldAddr 0 (.t 17))), none⟩, ⟨none, (.store 1 (.t 120) (.c (.int .i64 (.lit 11)))), none⟩])
 (.seq (.seq (.reg [⟨(some 121), (.p (.mv (.t 7))), none⟩, ⟨(some 122), (.p (.mv (.t 18))), none⟩, ⟨(some 123), (.p (.idxSl 1 (.t 121) (.t 122))), none⟩, ⟨(some 124), (.load false 1 (.t 123)), none⟩, ⟨(some 125), (.p (.bin 0 .eql (.t 124) (.c (.int .i64 (.lit 0))))), none⟩, ⟨(some 126), (.p (.mv (.t 125))), none⟩, ⟨(some 127), (.p (.mv (.t 7))), (some (126, false))⟩, ⟨(some 128), (.p (.mv (.t 18))), (some (126, false))⟩, ⟨(some 129), (.p (.idxSl 1 (.t 127) (.t 128))), (some (126, false))⟩, ⟨(some 130), (.load false 1 (.t 129)), (some (126, false))⟩, ⟨(some 131), (.p (.bin 0 .eql (.t 130) (.c (.int .i64 (.lit 1))))), (some (126, false))⟩, ⟨(some 132), (.pick (.t 126) (.c (.bool (.lit true))) (.t 131)), none⟩])
 (.cond (.t 132) (.seq (.reg [⟨(some 4), (.p (.mv (.c (.bool (.lit false))))), none⟩])
 .ret)
 .skip))
 (.seq (.reg [⟨(some 133), (.p (.fieldAddr 8 (.t 17))), none⟩, ⟨none, (.store 1 (.t 133) (.c (.bool (.lit true)))), none⟩])
 (.seq (.reg [⟨(some 134), (.load true 4 (.t 8)), none⟩, ⟨(some 135), (.p (.fieldAddr 4 (.t 17))), none⟩, ⟨none, (.store 4 (.t 135) (.t 134)), none⟩])
 (.seq (.reg [⟨(some 136), (.p (.mv (.t 7))), none⟩, ⟨(some 137), (.p (.mv (.t 18))), none⟩, ⟨(some 138), (.p (.idxSl 1 (.t 136) (.t 137))), none⟩, ⟨(some 139), (.load false 1 (.t 138)), none⟩, ⟨(some 140), (.p (.bin 0 .eql (.t 139) (.c (.int .i64 (.lit 4))))), none⟩, ⟨(some 141), (.p (.mv (.t 140))), none⟩, ⟨(some 142), (.p (.mv (.t 7))), (some (141, false))⟩, ⟨(some 143), (.p (.mv (.t 18))), (some (141, false))⟩, ⟨(some 144), (.p (.idxSl 1 (.t 142) (.t 143))), (some (141, false))⟩, ⟨(some 145), (.load false 1 (.t 144)), (some (141, false))⟩, ⟨(some 146), (.p (.bin 0 .eql (.t 145) (.c (.int .i64 (.lit 3))))), (some (141, false))⟩, ⟨(some 147), (.pick (.t 141) (.c (.bool (.lit true))) (.t 146)), none⟩, ⟨(some 148), (.p (.fieldAddr 9 (.t 17))), none⟩, ⟨none, (.store 1 (.t 148) (.t 147)), none⟩])
 (.seq (.reg [⟨(some 149), (.p (.fieldAddr 0 (.t 16))), none⟩, ⟨(some 150), (.load false 1 (.t 149)), none⟩, ⟨(some 151), (.p (.bin 0 .eql (.t 150) (.c (.int .i64 (.lit 6))))), none⟩])
 (.cond (.t 151) (.reg [⟨(some 152), (.p (.mv (.t 7))), none⟩, ⟨(some 153), (.p (.mv (.t 18))), none⟩, ⟨(some 154), (.p (.idxSl 1 (.t 152) (.t 153))), none⟩, ⟨none, (.store 1 (.t 154) (.c (.int .i64 (.lit 0)))), none⟩])
 (.seq (.reg [⟨(some 155), (.p (.fieldAddr 9 (.t 17))), none⟩, ⟨(some 156), (.load false 1 (.t 155)), none⟩])
 (.cond (.t 156) (.reg [⟨(some 157), (.p (.mv (.t 7))), none⟩, ⟨(some 158), (.p (.mv (.t 18))), none⟩, ⟨(some 159), (.p (.idxSl 1 (.t 157) (.t 158))), none⟩, ⟨none, (.store 1 (.t 159) (.c (.int .i64 (.lit 3)))), none⟩])
 (.reg [⟨(some 160), (.p (.mv (.t 7))), none⟩, ⟨(some 161), (.p (.mv (.t 18))), none⟩, ⟨(some 162), (.p (.idxSl 1 (.t 160) (.t 161))), none⟩, ⟨none, (.store 1 (.t 162) (.c (.int .i64 (.lit 1)))), none⟩]))))))))))
 (.seq (.seq (.reg [⟨(some 164), (.p (.bin 0 .eql (.t 110) (.c (.int .i64 (.lit 7))))), none⟩, ⟨(some 163), (.p (.mv (.t 164))), none⟩])
 (.cond (.t 163) .skip
 (.reg [⟨(some 165), (.p (.bin 0 .eql (.t 110) (.c (.int .i64 (.lit 8))))), none⟩, ⟨(some 163), (.p (.mv (.t 165))), none⟩])))
 (.cond (.t 163) (.seq (.seq (.reg [⟨(some 166), (.p (.mv (.t 18))), none⟩, ⟨(some 167), (.p (.mv (.t 10))), none⟩, ⟨(some 168), (.p (.bin 0 .neq (.t 166) (.t 167))), none⟩, ⟨(some 169), (.p (.mv (.t 168))), none⟩, ⟨(some 170), (.p (.fieldAddr 0 (.t 16))), (some (169, false))⟩, ⟨(some 171), (.load false 1 (.t 170)), (some (169, false))⟩, ⟨(some 172), (.p (.bin 0 .eql (.t 171) (.c (.int .i64 (.lit 7))))), (some (169, false))⟩, ⟨(some 173), (.p (.mv (.t 172))), (some (169, false))⟩, ⟨(some 174), (.p (.fieldAddr 4 (.t 16))), (some (173, true))⟩, ⟨(some 175), (.load true 4 (.t 174)), (some (173, true))⟩, ⟨(some 176), (.load true 4 (.t 8)), (some (173, true))⟩, ⟨(some 177), (.call (.f 16) [(.t 175), (.t 176)]), (some (173, true))⟩, ⟨(some 178), (.p (.un .not (.t 177))), (some (173, true))⟩, ⟨(some 179), (.pick (.t 173) (.t 178) (.c (.bool (.lit false)))), (some (169, false))⟩, ⟨(some 180), (.pick (.t 169) (.c (.bool (.lit true))) (.t 179)), none⟩, ⟨(some 181), (.p (.mv (.t 180))), none⟩, ⟨(some 182), (.p (.fieldAddr 0 (.t 16))), (some (181, false))⟩, ⟨(some 183), (.load false 1 (.t 182)), (some (181, false))⟩, ⟨(some 184), (.p (.bin 0 .eql (.t 183) (.c (.int .i64 (.lit 8))))), (some (181, false))⟩, ⟨(some 185), (.p (.mv (.t 184))), (some (181, false))⟩, ⟨(some 186), (.p (.mv (.t 7))), (some (185, true))⟩, ⟨(some 187), (.p (.mv (.t 10))), (some (185, true))⟩, ⟨(some 188), (.p (.idxSl 1 (.t 186) (.t 187))), (some (185, true))⟩, ⟨(some 189), (.load false 1 (.t 188)), (some (185, true))⟩, ⟨(some 190), (.p (.bin 0 .neq (.t 189) (.c (.int .i64 (.lit 3))))), (some (185, true))⟩, ⟨(some 191), (.pick (.t 185) (.t 190) (.c (.bool (.lit false)))), (some (181, false))⟩, ⟨(some 192), (.pick (.t 181) (.c (.bool (.lit true))) (.t 191)), none⟩])
 (.cond (.t 192) (.seq (.reg [⟨(some 4), (.p (.mv (.c (.bool (.lit false))))), none⟩])
 .ret)
 .skip))
 (.seq (.reg [⟨(some 193), (.p (.fieldAddr 0 (.t 17))), none⟩, ⟨none, (.store 1 (.t 193) (.c (.int .i64 (.lit 12)))), none⟩])
 (.seq (.reg [⟨(some 14), (.p (.mv (.c (.bool (.lit true))))), none⟩])
 (.seq (.reg [⟨(some 194), (.p (.mv (.t 7))), none⟩, ⟨(some 195), (.p (.mv (.t 10))), none⟩, ⟨(some 196), (.p (.idxSl 1 (.t 194) (.t 195))), none⟩, ⟨none, (.store 1 (.t 196) (.c (.int .i64 (.lit 1)))), none⟩])
 (.seq (.reg [⟨(some 197), (.p (.mv (.t 11))), none⟩, ⟨(some 198), (.p (.mv (.t 197))), none⟩, ⟨(some 199), (.p (.fieldAddr 10 (.t 16))), (some (198, false))⟩, ⟨(some 200), (.load false 1 (.t 199)), (some (198, false))⟩, ⟨(some 201), (.pick (.t 198) (.c (.bool (.lit true))) (.t 200)), none⟩])
 (.cond (.t 201) (.reg [⟨(some 202), (.p (.mv (.t 7))), none⟩, ⟨(some 203), (.p (.mv (.t 10))), none⟩, ⟨(some 204), (.p (.idxSl 1 (.t 202) (.t 203))), none⟩, ⟨none, (.store 1 (.t 204) (.c (.int .i64 (.lit 2)))), none⟩])
 .skip))))))
 (.seq (.reg [⟨(some 4), (.p (.mv (.c (.bool (.lit false))))), none⟩])
 .ret)))))))))
 (.seq (.seq (.reg [⟨(some 205), (.p (.mv (.t 6))), none⟩, ⟨(some 206), (.load true 11 (.t 17)), none⟩, ⟨(some 207), (.call (.f 17) [(.t 205), (.t 206)]), none⟩, ⟨(some 208), (.p (.un .not (.t 207))), none⟩])
 (.cond (.t 208) (.seq (.reg [⟨(some 4), (.p (.mv (.c (.bool (.lit false))))), none⟩])
 .ret)
 .skip))
 (.reg [⟨(some 209), (.p (.mv (.t 13))), none⟩, ⟨(some 210), (.p (.mv (.t 6))), none⟩, ⟨(some 211), (.load true 11 (.t 17)), none⟩, ⟨(some 212), (.call (.f 15) [(.t 210), (.t 211)]), none⟩, ⟨(some 213), (.append 11 56 (.t 209) (.t 212)), none⟩, ⟨(some 13), (.p (.mv (.t 213))), none⟩])))))))))
 (.reg [⟨(some 91), (.p (.mv (.t 15))), none⟩, ⟨(some 92), (.p (.bin 0 .add (.t 91) (.c (.int .i64 (.lit 1))))), none⟩, ⟨(some 15), (.p (.mv (.t 92))), none⟩]))))))
 (.seq (.seq (.reg [⟨(some 214), (.p (.mv (.t 14))), none⟩, ⟨(some 215), (.p (.un .not (.t 214))), none⟩, ⟨(some 216), (.p (.mv (.t 215))), none⟩, ⟨(some 217), (.p (.mv (.t 6))), (some (216, false))⟩, ⟨(some 218), (.call (.f 18) [(.t 217)]), (some (216, false))⟩, ⟨(some 219), (.pick (.t 216) (.c (.bool (.lit true))) (.t 218)), none⟩])
 (.cond (.t 219) (.seq (.reg [⟨(some 4), (.p (.mv (.c (.bool (.lit false))))), none⟩])
 .ret)
 .skip))
 (.seq (.seq (.reg [⟨(some 220), (.p (.mv (.t 11))), none⟩])
 (.cond (.t 220) (.seq (.reg [⟨(some 221), (.p (.mv (.t 7))), none⟩, ⟨(some 222), (.p (.mv (.t 10))), none⟩, ⟨(some 223), (.p (.idxSl 1 (.t 221) (.t 222))), none⟩, ⟨none, (.store 1 (.t 223) (.c (.int .i64 (.lit 4)))), none⟩])
 (.reg [⟨(some 224), (.p (.mv (.t 9))), none⟩, ⟨(some 225), (.p (.bin 0 .and (.t 224) (.c (.int .i64 (.lit 3))))), none⟩, ⟨(some 226), (.p (.mv (.t 9))), none⟩, ⟨(some 227), (.p (.bin 0 .and (.t 226) (.c (.int .i64 (.lit 3))))), none⟩, ⟨(some 228), (.p (.idxArr 4 1 (.t 8) (.t 227))), none⟩, ⟨(some 229), (.load false 1 (.t 228)), none⟩, ⟨(some 230), (.p (.mv (.t 9))), none⟩, ⟨(some 231), (.p (.conv .u32 (.t 230))), none⟩, ⟨(some 232), (.p (.bin 0 .add (.t 229) (.t 231))), none⟩, ⟨(some 233), (.p (.bin 0 .add (.t 232) (.c (.int .u32 (.lit 1))))), none⟩, ⟨(some 234), (.p (.idxArr 4 1 (.t 8) (.t 225))), none⟩, ⟨none, (.store 1 (.t 234) (.t 233)), none⟩]))
 .skip))
 (.seq (.reg [⟨(some 19), (.p (.mv (.c (.int .i64 (.lit 0))))), none⟩])
 (.block 5 (.loop (.seq (.seq (.reg [⟨(some 235), (.p (.mv (.t 19))), none⟩, ⟨(some 236), (.p (.bin 0 .lss (.t 235) (.c (.int .i64 (.lit 4))))), none⟩])
 (.cond (.t 236) .skip
 (.exit 5)))
 (.seq (.block 6 (.seq (.reg [⟨(some 239), (.p (.mv (.t 19))), none⟩, ⟨(some 240), (.p (.mv (.t 10))), none⟩, ⟨(some 241), (.p (.bin 0 .neq (.t 239) (.t 240))), none⟩, ⟨(some 242), (.p (.mv (.t 241))), none⟩, ⟨(some 243), (.p (.mv (.t 7))), (some (242, true))⟩, ⟨(some 244), (.p (.mv (.t 19))), (some (242, true))⟩, ⟨(some 245), (.p (.idxSl 1 (.t 243) (.t 244))), (some (242, true))⟩, ⟨(some 246), (.load false 1 (.t 245)), (some (242, true))⟩, ⟨(some 247), (.p (.bin 0 .neq (.t 246) (.c (.int .i64 (.lit 0))))), (some (242, true))⟩, ⟨(some 248), (.pick (.t 242) (.t 247) (.c (.bool (.lit false)))), none⟩, ⟨(some 249), (.p (.mv (.t 248))), none⟩, ⟨(some 250), (.p (.mv (.t 7))), (some (249, true))⟩, ⟨(some 251), (.p (.mv (.t 10))), (some (249, true))⟩, ⟨(some 252), (.p (.idxSl 1 (.t 250) (.t 251))), (some (249, true))⟩, ⟨(some 253), (.load false 1 (.t 252)), (some (249, true))⟩, ⟨(some 254), (.p (.bin 0 .eql (.t 253) (.c (.int .i64 (.lit 4))))), (some (249, true))⟩, ⟨(some 255), (.p (.mv (.t 254))), (some (249, true))⟩, ⟨(some 256), (.p (.mv (.t 7))), (some (255, false))⟩, ⟨(some 257), (.p (.mv (.t 10))), (some (255, false))⟩, ⟨(some 258), (.p (.idxSl 1 (.t 256) (.t 257))), (some (255, false))⟩, ⟨(some 259), (.load false 1 (.t 258)), (some (255, false))⟩, ⟨(some 260), (.p (.bin 0 .eql (.t 259) (.c (.int .i64 (.lit 2))))), (some (255, false))⟩, ⟨(some 261), (.pick (.t 255) (.c (.bool (.lit true))) (.t 260)), (some (249, true))⟩, ⟨(some 262), (.pick (.t 249) (.t 261) (.c (.bool (.lit false)))), none⟩])
 (.cond (.t 262) (.seq (.reg [⟨(some 4), (.p (.mv (.c (.bool (.lit false))))), none⟩])
 .ret)
 .skip)))
 (.reg [⟨(some 237), (.p (.mv (.t 19))), none⟩, ⟨(some 238), (.p (.bin 0 .add (.t 237) (.c (.int .i64 (.lit 1))))), none⟩, ⟨(some 19), (.p (.mv (.t 238))), none⟩])))))))))))))))))
 (.reg [⟨(some 41), (.p (.mv (.t 9))), none⟩, ⟨(some 42), (.p (.bin 0 .add (.t 41) (.c (.int .i64 (.lit 1))))), none⟩, ⟨(some 9), (.p (.mv (.t 42))), none⟩]))))))
 (.seq (.reg [⟨(some 4), (.p (.mv (.c (.bool (.lit true))))), none⟩])
 .ret))))))))))⟩
/- corral/corrallaw18.first -/
def af13 : AFunc := ⟨59, [.t 0],
 (.seq (.reg [⟨(some 0), (.p (.mv (.c (.bool (.lit false))))), none⟩])
 (.seq (.reg [⟨(some 5), (.p (.build [(.int .u32 (.lit 0)), (.int .u32 (.lit 0)), (.int .u32 (.lit 0)), (.int .u32 (.lit 0))] [(0, 1, (.c (.int .u32 (.lit 7))))])), none⟩, ⟨(some 6), (.call (.f 14) [(.c (.int .i64 (.lit 3))), (.c (.int .i64 (.lit 2))), (.t 5)]), none⟩, ⟨(some 1), (.p (.mv (.t 6))), none⟩])
 (.seq (.seq (.reg [⟨(some 7), (.p (.mv (.t 1))), none⟩, ⟨(some 8), (.p (.nilEq 0 false (.t 7) (.c .nilPtr))), none⟩])
 (.cond (.t 8) (.seq (.reg [⟨(some 0), (.p (.mv (.c (.bool (.lit false))))), none⟩])
 .ret)
 .skip))
 (.seq (.reg [⟨(some 9), (.p (.mv (.t 1))), none⟩, ⟨(some 10), (.p (.build [(.int .i64 (.lit 0)), (.int .i64 (.lit 0)), (.int .i64 (.lit 0)), (.int .i64 (.lit 0)), (.int .u32 (.lit 0)), (.int .u32 (.lit 0)), (.int .u32 (.lit 0)), (.int .u32 (.lit 0)), (.bool (.lit false)), (.bool (.lit false)), (.bool (.lit false))] [(0, 1, (.c (.int .i64 (.lit 1)))), (1, 1, (.c (.int .i64 (.lit 3)))), (2, 1, (.c (.int .i64 (.lit 0)))), (3, 1, (.c (.int .i64 (.lit (-1)))))])), none⟩, ⟨(some 11), (.call (.f 15) [(.t 9), (.t 10)]), none⟩, ⟨(some 2), (.p (.mv (.t 11))), none⟩])
 (.seq (.reg [⟨(some 12), (.p (.mv (.t 1))), none⟩, ⟨(some 13), (.call (.f 19) [(.t 12)]), none⟩, ⟨(some 3), (.p (.mv (.t 13))), none⟩])
 (.seq (.reg [⟨(some 14), (.p (.mv (.t 1))), none⟩, ⟨(some 15), (.p (.build [(.int .i64 (.lit 0)), (.int .i64 (.lit 0)), (.int .i64 (.lit 0)), (.int .i64 (.lit 0)), (.int .u32 (.lit 0)), (.int .u32 (.lit 0)), (.int .u32 (.lit 0)), (.int .u32 (.lit 0)), (.bool (.lit false)), (.bool (.lit false)), (.bool (.lit false))] [(0, 1, (.c (.int .i64 (.lit 12)))), (1, 1, (.c (.int .i64 (.lit 3)))), (2, 1, (.c (.int .i64 (.lit 0)))), (3, 1, (.c (.int .i64 (.lit (-1)))))])), none⟩, ⟨(some 16), (.call (.f 15) [(.t 14), (.t 15)]), none⟩])
 (.seq (.reg [⟨(some 17), (.p (.mv (.t 1))), none⟩, ⟨(some 18), (.p (.build [(.int .i64 (.lit 0)), (.int .i64 (.lit 0)), (.int .i64 (.lit 0)), (.int .i64 (.lit 0)), (.int .u32 (.lit 0)), (.int .u32 (.lit 0)), (.int .u32 (.lit 0)), (.int .u32 (.lit 0)), (.bool (.lit false)), (.bool (.lit false)), (.bool (.lit false))] [(0, 1, (.c (.int .i64 (.lit 1)))), (1, 1, (.c (.int .i64 (.lit 3)))), (2, 1, (.c (.int .i64 (.lit 1)))), (3, 1, (.c (.int .i64 (.lit (-1)))))])), none⟩, ⟨(some 19), (.call (.f 15) [(.t 17), (.t 18)]), none⟩, ⟨(some 4), (.p (.mv (.t 19))), none⟩])
 (.seq (.reg [⟨(some 20), (.p (.mv (.t 2))), none⟩, ⟨(some 21), (.p (.lenS (.t 20))), none⟩, ⟨(some 22), (.p (.bin 0 .eql (.t 21) (.c (.int .i64 (.lit 1))))), none⟩, ⟨(some 23), (.p (.mv (.t 22))), none⟩, ⟨(some 24), (.p (.mv (.t 2))), (some (23, true))⟩, ⟨(some 25), (.p (.idxSl 11 (.t 24) (.c (.int .i64 (.lit 0))))), (some (23, true))⟩, ⟨(some 26), (.p (.fieldAddr 0 (.t 25))), (some (23, true))⟩, ⟨(some 27), (.load false 1 (.t 26)), (some (23, true))⟩, ⟨(some 28), (.p (.bin 0 .eql (.t 27) (.c (.int .i64 (.lit 7))))), (some (23, true))⟩, ⟨(some 29), (.pick (.t 23) (.t 28) (.c (.bool (.lit false)))), none⟩, ⟨(some 30), (.p (.mv (.t 29))), none⟩, ⟨(some 31), (.p (.mv (.t 2))), (some (30, true))⟩, ⟨(some 32), (.p (.idxSl 11 (.t 31) (.c (.int .i64 (.lit 0))))), (some (30, true))⟩, ⟨(some 33), (.p (.fieldAddr 10 (.t 32))), (some (30, true))⟩, ⟨(some 34), (.load false 1 (.t 33)), (some (30, true))⟩, ⟨(some 35), (.pick (.t 30) (.t 34) (.c (.bool (.lit false)))), none⟩, ⟨(some 36), (.p (.mv (.t 35))), none⟩, ⟨(some 37), (.p (.mv (.t 3))), (some (36, true))⟩, ⟨(some 38), (.p (.bin 0 .eql (.t 37) (.c (.int .i64 (.lit 0))))), (some (36, true))⟩, ⟨(some 39), (.pick (.t 36) (.t 38) (.c (.bool (.lit false)))), none⟩, ⟨(some 40), (.p (.mv (.t 39))), none⟩, ⟨(some 41), (.p (.mv (.t 4))), (some (40, true))⟩, ⟨(some 42), (.p (.lenS (.t 41))), (some (40, true))⟩, ⟨(some 43), (.p (.bin 0 .eql (.t 42) (.c (.int .i64 (.lit 1))))), (some (40, true))⟩, ⟨(some 44), (.pick (.t 40) (.t 43) (.c (.bool (.lit false)))), none⟩, ⟨(some 45), (.p (.mv (.t 44))), none⟩, ⟨(some 46), (.p (.mv (.t 4))), (some (45, true))⟩, ⟨(some 47), (.p (.idxSl 11 (.t 46) (.c (.int .i64 (.lit 0))))), (some (45, true))⟩, ⟨(some 48), (.p (.fieldAddr 0 (.t 47))), (some (45, true))⟩, ⟨(some 49), (.load false 1 (.t 48)), (some (45, true))⟩, ⟨(some 50), (.p (.bin 0 .eql (.t 49) (.c (.int .i64 (.lit 5))))), (some (45, true))⟩, ⟨(some 51), (.pick (.t 45) (.t 50) (.c (.bool (.lit false)))), none⟩, ⟨(some 52), (.p (.mv (.t 51))), none⟩, ⟨(some 53), (.p (.mv (.t 4))), (some (52, true))⟩, ⟨(some 54), (.p (.idxSl 11 (.t 53) (.c (.int .i64 (.lit 0))))), (some (52, true))⟩, ⟨(some 55), (.p (.fieldAddr 3 (.t 54))), (some (52, true))⟩, ⟨(some 56), (.load false 1 (.t 55)), (some (52, true))⟩, ⟨(some 57), (.p (.bin 0 .eql (.t 56) (.c (.int .i64 (.lit 0))))), (some (52, true))⟩, ⟨(some 58), (.pick (.t 52) (.t 57) (.c (.bool (.lit false)))), none⟩, ⟨(some 0), (.p (.mv (.t 58))), none⟩])
 .ret))))))))⟩
/- corral/home.New -/
def af14 : AFunc := ⟨18, [.t 6],
 (.seq (.reg [⟨(some 5), (.box 4 (.t 2)), none⟩, ⟨(some 6), (.p (.mv (.c .nilPtr))), none⟩])
 (.seq (.reg [⟨(some 7), (.p (.mv (.t 1))), none⟩, ⟨(some 8), (.p (.mx (.t 7) (.c (.int .i64 (.lit 0))))), none⟩, ⟨(some 1), (.p (.mv (.t 8))), none⟩])
 (.seq (.draw [(⟨(some 9), (.p (.mv (.t 0))), none⟩, []), (⟨(some 10), (.p (.mv (.t 1))), none⟩, []), (⟨(some 11), (.load true 4 (.t 5)), none⟩, []), (⟨(some 12), (.p (.mv (.t 1))), none⟩, []), (⟨(some 13), (.mkSl 1 1 [(.bool (.lit false))] (.t 12) (.t 12)), none⟩, []), (⟨(some 14), (.p (.mv (.t 1))), none⟩, []), (⟨(some 15), (.mkSl 1 1 [(.bool (.lit false))] (.t 14) (.t 14)), none⟩, []), (⟨(some 16), (.p (.build [(.int .i64 (.lit 0)), (.int .i64 (.lit 0)), (.int .u32 (.lit 0)), (.int .u32 (.lit 0)), (.int .u32 (.lit 0)), (.int .u32 (.lit 0)), (.int .i64 (.lit 0)), .nilSlice, (.bool (.lit false)), (.int .i64 (.lit 0)), (.int .i64 (.lit 0)), (.int .i64 (.lit 0)), .nilSlice, (.int .i64 (.lit 0)), (.int .i64 (.lit 0)), (.int .i64 (.lit 0)), (.int .i64 (.lit 0)), (.int .u32 (.lit 0)), (.int .u32 (.lit 0)), (.int .u32 (.lit 0)), (.int .u32 (.lit 0)), (.bool (.lit false)), (.bool (.lit false)), (.bool (.lit false))] [(0, 1, (.t 9)), (1, 1, (.t 10)), (2, 4, (.t 11)), (6, 1, (.c (.int .i64 (.lit (-1))))), (7, 1, (.t 13)), (11, 1, (.c (.int .i64 (.lit (-1))))), (12, 1, (.t 15))])), none⟩, []), (⟨(some 17), (.box 24 (.t 16)), none⟩, []), (⟨(some 6), (.p (.mv (.t 17))), none⟩, [])])
 .ret)))⟩
/- (*corral/home.Home).Take -/
def af15 : AFunc := ⟨102, [.t 4],
 (.seq (.reg [⟨(some 3), (.box 11 (.t 1)), none⟩, ⟨(some 4), (.p (.mv (.c .nilSlice))), none⟩])
 (.seq (.seq (.reg [⟨(some 5), (.p (.mv (.t 0))), none⟩, ⟨(some 6), (.load true 11 (.t 3)), none⟩, ⟨(some 7), (.call (.f 17) [(.t 5), (.t 6)]), none⟩, ⟨(some 8), (.p (.un .not (.t 7))), none⟩])
 (.cond (.t 8) (.seq (.reg [⟨(some 4), (.p (.mv (.c .nilSlice))), none⟩])
 .ret)
 .skip))
 (.seq (.seq (.reg [⟨(some 9), (.p (.fieldAddr 0 (.t 3))), none⟩, ⟨(some 10), (.load false 1 (.t 9)), none⟩])
 (.block 0 (.seq (.seq (.reg [⟨(some 12), (.p (.bin 0 .eql (.t 10) (.c (.int .i64 (.lit 1))))), none⟩, ⟨(some 11), (.p (.mv (.t 12))), none⟩])
 (.cond (.t 11) .skip
 (.reg [⟨(some 13), (.p (.bin 0 .eql (.t 10) (.c (.int .i64 (.lit 2))))), none⟩, ⟨(some 11), (.p (.mv (.t 13))), none⟩])))
 (.cond (.t 11) (.seq (.draw [(⟨(some 14), (.p (.mv (.t 0))), none⟩, []), (⟨(some 15), (.p (.mv (.t 0))), none⟩, []), (⟨(some 16), (.p (.mv (.t 0))), none⟩, []), (⟨(some 17), (.p (.mv (.t 0))), none⟩, []), (⟨(some 18), (.p (.fieldAddr 2 (.t 3))), none⟩, []), (⟨(some 19), (.load false 1 (.t 18)), none⟩, [11]), (⟨(some 20), (.p (.fieldAddr 0 (.t 3))), none⟩, []), (⟨(some 21), (.load false 1 (.t 20)), none⟩, [11, 14]), (⟨(some 22), (.p (.build [(.int .i64 (.lit 0)), (.int .i64 (.lit 0)), (.int .i64 (.lit 0)), (.int .i64 (.lit 0)), (.int .u32 (.lit 0)), (.int .u32 (.lit 0)), (.int .u32 (.lit 0)), (.int .u32 (.lit 0)), (.bool (.lit false)), (.bool (.lit false)), (.bool (.lit false))] [])), none⟩, []), (⟨(some 23), (.p (.nilCheck (.t 14))), none⟩, []), (⟨(some 24), (.p (.fieldAddr 8 (.t 23))), none⟩, []), (⟨none, (.store 1 (.t 24) (.c (.bool (.lit true)))), none⟩, []), (⟨(some 25), (.p (.nilCheck (.t 15))), none⟩, []), (⟨(some 26), (.p (.fieldAddr 9 (.t 25))), none⟩, []), (⟨none, (.store 1 (.t 26) (.t 19)), none⟩, []), (⟨(some 27), (.p (.nilCheck (.t 16))), none⟩, []), (⟨(some 28), (.p (.fieldAddr 10 (.t 27))), none⟩, []), (⟨none, (.store 1 (.t 28) (.t 21)), none⟩, []), (⟨(some 29), (.p (.nilCheck (.t 17))), none⟩, []), (⟨(some 30), (.p (.fieldAddr 13 (.t 29))), none⟩, []), (⟨none, (.store 11 (.t 30) (.t 22)), none⟩, [])])
 (.seq (.seq (.reg [⟨(some 31), (.p (.fieldAddr 0 (.t 3))), none⟩, ⟨(some 32), (.load false 1 (.t 31)), none⟩, ⟨(some 33), (.p (.bin 0 .eql (.t 32) (.c (.int .i64 (.lit 1))))), none⟩])
 (.cond (.t 33) (.seq (.reg [⟨(some 34), (.p (.mv (.t 0))), none⟩, ⟨(some 35), (.call (.f 43) [(.t 34)]), none⟩, ⟨(some 4), (.p (.mv (.t 35))), none⟩])
 .ret)
 .skip))
 (.seq (.reg [⟨(some 36), (.p (.mv (.t 0))), none⟩, ⟨(some 37), (.call (.f 44) [(.t 36)]), none⟩, ⟨(some 4), (.p (.mv (.t 37))), none⟩])
 .ret)))
 (.seq (.reg [⟨(some 39), (.p (.bin 0 .eql (.t 10) (.c (.int .i64 (.lit 3))))), none⟩, ⟨(some 38), (.p (.mv (.t 39))), none⟩])
 (.cond (.t 38) (.seq (.seq (.draw [(⟨(some 40), (.p (.fieldAddr 2 (.t 3))), none⟩, []), (⟨(some 41), (.load false 1 (.t 40)), none⟩, []), (⟨(some 42), (.p (.mv (.t 0))), none⟩, []), (⟨(some 43), (.p (.nilCheck (.t 42))), none⟩, []), (⟨(some 44), (.p (.fieldAddr 6 (.t 43))), none⟩, []), (⟨(some 45), (.load false 1 (.t 44)), none⟩, []), (⟨(some 46), (.p (.bin 0 .eql (.t 41) (.t 45))), none⟩, [])])
 (.cond (.t 46) (.seq (.seq (.reg [⟨(some 47), (.p (.fieldAddr 9 (.t 3))), none⟩, ⟨(some 48), (.load false 1 (.t 47)), none⟩])
 (.cond (.t 48) (.reg [⟨(some 49), (.p (.mv (.t 0))), none⟩, ⟨(some 50), (.p (.fieldAddr 4 (.t 3))), none⟩, ⟨(some 51), (.load true 4 (.t 50)), none⟩, ⟨(some 52), (.p (.nilCheck (.t 49))), none⟩, ⟨(some 53), (.p (.fieldAddr 2 (.t 52))), none⟩, ⟨none, (.store 4 (.t 53) (.t 51)), none⟩])
 .skip))
 (.reg [⟨(some 54), (.p (.mv (.t 0))), none⟩, ⟨(some 55), (.p (.nilCheck (.t 54))), none⟩, ⟨(some 56), (.p (.fieldAddr 6 (.t 55))), none⟩, ⟨none, (.store 1 (.t 56) (.c (.int .i64 (.lit (-1))))), none⟩]))
 .skip))
 (.seq (.draw [(⟨(some 57), (.p (.mv (.t 0))), none⟩, []), (⟨(some 58), (.p (.nilCheck (.t 57))), none⟩, []), (⟨(some 59), (.p (.fieldAddr 7 (.t 58))), none⟩, []), (⟨(some 60), (.load false 1 (.t 59)), none⟩, []), (⟨(some 61), (.p (.fieldAddr 2 (.t 3))), none⟩, []), (⟨(some 62), (.load false 1 (.t 61)), none⟩, []), (⟨(some 63), (.p (.idxSl 1 (.t 60) (.t 62))), none⟩, []), (⟨none, (.store 1 (.t 63) (.c (.bool (.lit false)))), none⟩, [])])
 (.seq (.reg [⟨(some 64), (.p (.mv (.t 0))), none⟩, ⟨(some 65), (.p (.fieldAddr 2 (.t 3))), none⟩, ⟨(some 66), (.load false 1 (.t 65)), none⟩, ⟨(some 67), (.call (.f 45) [(.t 64), (.t 66), (.c (.int .i64 (.lit 9)))]), none⟩, ⟨(some 68), (.mkArr 11 1 [(.int .i64 (.lit 0)), (.int .i64 (.lit 0)), (.int .i64 (.lit 0)), (.int .i64 (.lit 0)), (.int .u32 (.lit 0)), (.int .u32 (.lit 0)), (.int .u32 (.lit 0)), (.int .u32 (.lit 0)), (.bool (.lit false)), (.bool (.lit false)), (.bool (.lit false))] [(0, 11, (.t 67))]), none⟩, ⟨(some 4), (.p (.mv (.t 68))), none⟩])
 .ret)))
 (.seq (.reg [⟨(some 70), (.p (.bin 0 .eql (.t 10) (.c (.int .i64 (.lit 10))))), none⟩, ⟨(some 69), (.p (.mv (.t 70))), none⟩])
 (.cond (.t 69) (.seq (.draw [(⟨(some 71), (.p (.mv (.t 0))), none⟩, []), (⟨(some 72), (.p (.nilCheck (.t 71))), none⟩, []), (⟨(some 73), (.p (.fieldAddr 12 (.t 72))), none⟩, []), (⟨(some 74), (.load false 1 (.t 73)), none⟩, []), (⟨(some 75), (.p (.fieldAddr 2 (.t 3))), none⟩, []), (⟨(some 76), (.load false 1 (.t 75)), none⟩, []), (⟨(some 77), (.p (.idxSl 1 (.t 74) (.t 76))), none⟩, []), (⟨none, (.store 1 (.t 77) (.c (.bool (.lit false)))), none⟩, [])])
 (.seq (.reg [⟨(some 78), (.p (.mv (.t 0))), none⟩, ⟨(some 79), (.call (.f 46) [(.t 78)]), none⟩, ⟨(some 4), (.p (.mv (.t 79))), none⟩])
 .ret))
 (.seq (.reg [⟨(some 81), (.p (.bin 0 .eql (.t 10) (.c (.int .i64 (.lit 11))))), none⟩, ⟨(some 80), (.p (.mv (.t 81))), none⟩])
 (.cond (.t 80) (.seq (.draw [(⟨(some 82), (.p (.mv (.t 0))), none⟩, []), (⟨(some 83), (.p (.mv (.t 0))), none⟩, []), (⟨(some 84), (.load true 11 (.t 3)), none⟩, [5]), (⟨(some 85), (.p (.nilCheck (.t 82))), none⟩, []), (⟨(some 86), (.p (.fieldAddr 11 (.t 85))), none⟩, []), (⟨none, (.store 1 (.t 86) (.c (.int .i64 (.lit (-1))))), none⟩, []), (⟨(some 87), (.p (.nilCheck (.t 83))), none⟩, []), (⟨(some 88), (.p (.fieldAddr 13 (.t 87))), none⟩, []), (⟨none, (.store 11 (.t 88) (.t 84)), none⟩, [])])
 (.seq (.seq (.reg [⟨(some 89), (.p (.mv (.t 0))), none⟩, ⟨(some 90), (.p (.nilCheck (.t 89))), none⟩, ⟨(some 91), (.p (.fieldAddr 10 (.t 90))), none⟩, ⟨(some 92), (.load false 1 (.t 91)), none⟩, ⟨(some 93), (.p (.bin 0 .eql (.t 92) (.c (.int .i64 (.lit 1))))), none⟩])
 (.cond (.t 93) (.seq (.reg [⟨(some 94), (.p (.mv (.t 0))), none⟩, ⟨(some 95), (.load true 11 (.t 3)), none⟩, ⟨(some 96), (.call (.f 47) [(.t 94), (.t 95)]), none⟩, ⟨(some 4), (.p (.mv (.t 96))), none⟩])
 .ret)
 .skip))
 (.seq (.reg [⟨(some 97), (.p (.mv (.t 0))), none⟩, ⟨(some 98), (.call (.f 46) [(.t 97)]), none⟩, ⟨(some 4), (.p (.mv (.t 98))), none⟩])
 .ret)))
 .skip))))))))))
 (.seq (.reg [⟨(some 99), (.p (.mv (.t 0))), none⟩, ⟨(some 100), (.p (.nilCheck (.t 99))), none⟩, ⟨(some 101), (.p (.fieldAddr 8 (.t 100))), none⟩, ⟨none, (.store 1 (.t 101) (.c (.bool (.lit false)))), none⟩])
 (.seq (.reg [⟨(some 4), (.p (.mv (.c .nilSlice))), none⟩])
 .ret)))))⟩
/- corral/corralref.SameLine -/
def af16 : AFunc := ⟨31, [.t 4],
 (.seq (.reg [⟨(some 2), (.box 4 (.t 0)), none⟩, ⟨(some 3), (.box 4 (.t 1)), none⟩, ⟨(some 4), (.p (.mv (.c (.bool (.lit false))))), none⟩])
 (.seq (.reg [⟨(some 5), (.p (.idxArr 4 1 (.t 2) (.c (.int .i64 (.lit 0))))), none⟩, ⟨(some 6), (.load false 1 (.t 5)), none⟩, ⟨(some 7), (.p (.idxArr 4 1 (.t 3) (.c (.int .i64 (.lit 0))))), none⟩, ⟨(some 8), (.load false 1 (.t 7)), none⟩, ⟨(some 9), (.p (.bin 0 .eql (.t 6) (.t 8))), none⟩, ⟨(some 10), (.p (.mv (.t 9))), none⟩, ⟨(some 11), (.p (.idxArr 4 1 (.t 2) (.c (.int .i64 (.lit 1))))), (some (10, true))⟩, ⟨(some 12), (.load false 1 (.t 11)), (some (10, true))⟩, ⟨(some 13), (.p (.idxArr 4 1 (.t 3) (.c (.int .i64 (.lit 1))))), (some (10, true))⟩, ⟨(some 14), (.load false 1 (.t 13)), (some (10, true))⟩, ⟨(some 15), (.p (.bin 0 .eql (.t 12) (.t 14))), (some (10, true))⟩, ⟨(some 16), (.pick (.t 10) (.t 15) (.c (.bool (.lit false)))), none⟩, ⟨(some 17), (.p (.mv (.t 16))), none⟩, ⟨(some 18), (.p (.idxArr 4 1 (.t 2) (.c (.int .i64 (.lit 2))))), (some (17, true))⟩, ⟨(some 19), (.load false 1 (.t 18)), (some (17, true))⟩, ⟨(some 20), (.p (.idxArr 4 1 (.t 3) (.c (.int .i64 (.lit 2))))), (some (17, true))⟩, ⟨(some 21), (.load false 1 (.t 20)), (some (17, true))⟩, ⟨(some 22), (.p (.bin 0 .eql (.t 19) (.t 21))), (some (17, true))⟩, ⟨(some 23), (.pick (.t 17) (.t 22) (.c (.bool (.lit false)))), none⟩, ⟨(some 24), (.p (.mv (.t 23))), none⟩, ⟨(some 25), (.p (.idxArr 4 1 (.t 2) (.c (.int .i64 (.lit 3))))), (some (24, true))⟩, ⟨(some 26), (.load false 1 (.t 25)), (some (24, true))⟩, ⟨(some 27), (.p (.idxArr 4 1 (.t 3) (.c (.int .i64 (.lit 3))))), (some (24, true))⟩, ⟨(some 28), (.load false 1 (.t 27)), (some (24, true))⟩, ⟨(some 29), (.p (.bin 0 .eql (.t 26) (.t 28))), (some (24, true))⟩, ⟨(some 30), (.pick (.t 24) (.t 29) (.c (.bool (.lit false)))), none⟩, ⟨(some 4), (.p (.mv (.t 30))), none⟩])
 .ret))⟩
/- (*corral/home.Home).Takes -/
def af17 : AFunc := ⟨93, [.t 4],
 (.seq (.reg [⟨(some 3), (.box 11 (.t 1)), none⟩, ⟨(some 4), (.p (.mv (.c (.bool (.lit false))))), none⟩])
 (.seq (.seq (.draw [(⟨(some 5), (.p (.fieldAddr 1 (.t 3))), none⟩, []), (⟨(some 6), (.load false 1 (.t 5)), none⟩, []), (⟨(some 7), (.p (.mv (.t 0))), none⟩, []), (⟨(some 8), (.p (.nilCheck (.t 7))), none⟩, []), (⟨(some 9), (.p (.fieldAddr 0 (.t 8))), none⟩, []), (⟨(some 10), (.load false 1 (.t 9)), none⟩, []), (⟨(some 11), (.p (.bin 0 .neq (.t 6) (.t 10))), none⟩, []), (⟨(some 12), (.p (.mv (.t 11))), none⟩, []), (⟨(some 13), (.p (.fieldAddr 3 (.t 3))), (some (12, false))⟩, []), (⟨(some 14), (.load false 1 (.t 13)), (some (12, false))⟩, []), (⟨(some 15), (.p (.bin 0 .neq (.t 14) (.c (.int .i64 (.lit (-1)))))), (some (12, false))⟩, []), (⟨(some 16), (.pick (.t 12) (.c (.bool (.lit true))) (.t 15)), none⟩, []), (⟨(some 17), (.p (.mv (.t 16))), none⟩, []), (⟨(some 18), (.p (.fieldAddr 2 (.t 3))), (some (17, false))⟩, []), (⟨(some 19), (.load false 1 (.t 18)), (some (17, false))⟩, []), (⟨(some 20), (.p (.bin 0 .lss (.t 19) (.c (.int .i64 (.lit 0))))), (some (17, false))⟩, []), (⟨(some 21), (.pick (.t 17) (.c (.bool (.lit true))) (.t 20)), none⟩, []), (⟨(some 22), (.p (.mv (.t 21))), none⟩, []), (⟨(some 23), (.p (.fieldAddr 2 (.t 3))), (some (22, false))⟩, []), (⟨(some 24), (.load false 1 (.t 23)), (some (22, false))⟩, []), (⟨(some 25), (.p (.mv (.t 0))), (some (22, false))⟩, []), (⟨(some 26), (.p (.nilCheck (.t 25))), (some (22, false))⟩, []), (⟨(some 27), (.p (.fieldAddr 1 (.t 26))), (some (22, false))⟩, []), (⟨(some 28), (.load false 1 (.t 27)), (some (22, false))⟩, []), (⟨(some 29), (.p (.bin 0 .geq (.t 24) (.t 28))), (some (22, false))⟩, []), (⟨(some 30), (.pick (.t 22) (.c (.bool (.lit true))) (.t 29)), none⟩, [])])
 (.cond (.t 30) (.seq (.reg [⟨(some 4), (.p (.mv (.c (.bool (.lit false))))), none⟩])
 .ret)
 .skip))
 (.seq (.seq (.reg [⟨(some 31), (.p (.fieldAddr 0 (.t 3))), none⟩, ⟨(some 32), (.load false 1 (.t 31)), none⟩])
 (.block 0 (.seq (.seq (.reg [⟨(some 34), (.p (.bin 0 .eql (.t 32) (.c (.int .i64 (.lit 1))))), none⟩, ⟨(some 33), (.p (.mv (.t 34))), none⟩])
 (.cond (.t 33) .skip
 (.seq (.reg [⟨(some 35), (.p (.bin 0 .eql (.t 32) (.c (.int .i64 (.lit 2))))), none⟩, ⟨(some 33), (.p (.mv (.t 35))), none⟩])
 (.cond (.t 33) .skip
 (.reg [⟨(some 36), (.p (.bin 0 .eql (.t 32) (.c (.int .i64 (.lit 3))))), none⟩, ⟨(some 33), (.p (.mv (.t 36))), none⟩])))))
 (.cond (.t 33) (.seq (.reg [⟨(some 37), (.p (.mv (.t 0))), none⟩, ⟨(some 38), (.p (.nilCheck (.t 37))), none⟩, ⟨(some 39), (.p (.fieldAddr 8 (.t 38))), none⟩, ⟨(some 40), (.load false 1 (.t 39)), none⟩, ⟨(some 41), (.p (.un .not (.t 40))), none⟩, ⟨(some 4), (.p (.mv (.t 41))), none⟩])
 .ret)
 (.seq (.reg [⟨(some 43), (.p (.bin 0 .eql (.t 32) (.c (.int .i64 (.lit 10))))), none⟩, ⟨(some 42), (.p (.mv (.t 43))), none⟩])
 (.cond (.t 42) (.seq (.draw [(⟨(some 44), (.p (.mv (.t 0))), none⟩, []), (⟨(some 45), (.p (.nilCheck (.t 44))), none⟩, []), (⟨(some 46), (.p (.fieldAddr 8 (.t 45))), none⟩, []), (⟨(some 47), (.load false 1 (.t 46)), none⟩, []), (⟨(some 48), (.p (.mv (.t 47))), none⟩, []), (⟨(some 49), (.p (.mv (.t 0))), (some (48, true))⟩, []), (⟨(some 50), (.p (.nilCheck (.t 49))), (some (48, true))⟩, []), (⟨(some 51), (.p (.fieldAddr 12 (.t 50))), (some (48, true))⟩, []), (⟨(some 52), (.load false 1 (.t 51)), (some (48, true))⟩, []), (⟨(some 53), (.p (.fieldAddr 2 (.t 3))), (some (48, true))⟩, []), (⟨(some 54), (.load false 1 (.t 53)), (some (48, true))⟩, []), (⟨(some 55), (.p (.idxSl 1 (.t 52) (.t 54))), (some (48, true))⟩, []), (⟨(some 56), (.load false 1 (.t 55)), (some (48, true))⟩, []), (⟨(some 57), (.pick (.t 48) (.t 56) (.c (.bool (.lit false)))), none⟩, []), (⟨(some 4), (.p (.mv (.t 57))), none⟩, [])])
 .ret)
 (.seq (.reg [⟨(some 59), (.p (.bin 0 .eql (.t 32) (.c (.int .i64 (.lit 11))))), none⟩, ⟨(some 58), (.p (.mv (.t 59))), none⟩])
 (.cond (.t 58) (.seq (.draw [(⟨(some 60), (.p (.mv (.t 0))), none⟩, []), (⟨(some 61), (.p (.nilCheck (.t 60))), none⟩, []), (⟨(some 62), (.p (.fieldAddr 8 (.t 61))), none⟩, []), (⟨(some 63), (.load false 1 (.t 62)), none⟩, []), (⟨(some 64), (.p (.mv (.t 63))), none⟩, []), (⟨(some 65), (.p (.mv (.t 0))), (some (64, true))⟩, []), (⟨(some 66), (.p (.nilCheck (.t 65))), (some (64, true))⟩, []), (⟨(some 67), (.p (.fieldAddr 11 (.t 66))), (some (64, true))⟩, []), (⟨(some 68), (.load false 1 (.t 67)), (some (64, true))⟩, []), (⟨(some 69), (.p (.fieldAddr 2 (.t 3))), (some (64, true))⟩, []), (⟨(some 70), (.load false 1 (.t 69)), (some (64, true))⟩, []), (⟨(some 71), (.p (.bin 0 .eql (.t 68) (.t 70))), (some (64, true))⟩, []), (⟨(some 72), (.pick (.t 64) (.t 71) (.c (.bool (.lit false)))), none⟩, []), (⟨(some 4), (.p (.mv (.t 72))), none⟩, [])])
 .ret)
 (.seq (.reg [⟨(some 74), (.p (.bin 0 .eql (.t 32) (.c (.int .i64 (.lit 12))))), none⟩, ⟨(some 73), (.p (.mv (.t 74))), none⟩])
 (.cond (.t 73) (.seq (.draw [(⟨(some 75), (.p (.mv (.t 0))), none⟩, []), (⟨(some 76), (.p (.nilCheck (.t 75))), none⟩, []), (⟨(some 77), (.p (.fieldAddr 8 (.t 76))), none⟩, []), (⟨(some 78), (.load false 1 (.t 77)), none⟩, []), (⟨(some 79), (.p (.mv (.t 78))), none⟩, []), (⟨(some 80), (.p (.mv (.t 0))), (some (79, true))⟩, []), (⟨(some 81), (.call (.f 48) [(.t 80)]), (some (79, true))⟩, []), (⟨(some 82), (.p (.un .not (.t 81))), (some (79, true))⟩, []), (⟨(some 83), (.pick (.t 79) (.t 82) (.c (.bool (.lit false)))), none⟩, []), (⟨(some 84), (.p (.mv (.t 83))), none⟩, []), (⟨(some 85), (.p (.mv (.t 0))), (some (84, true))⟩, []), (⟨(some 86), (.p (.nilCheck (.t 85))), (some (84, true))⟩, []), (⟨(some 87), (.p (.fieldAddr 9 (.t 86))), (some (84, true))⟩, []), (⟨(some 88), (.load false 1 (.t 87)), (some (84, true))⟩, []), (⟨(some 89), (.p (.fieldAddr 2 (.t 3))), (some (84, true))⟩, []), (⟨(some 90), (.load false 1 (.t 89)), (some (84, true))⟩, []), (⟨(some 91), (.p (.bin 0 .eql (.t 88) (.t 90))), (some (84, true))⟩, []), (⟨(some 92), (.pick (.t 84) (.t 91) (.c (.bool (.lit false)))), none⟩, []), (⟨(some 4), (.p (.mv (.t 92))), none⟩, [])])
 .ret)
 .skip))))))))))
 (.seq (.reg [⟨(some 4), (.p (.mv (.c (.bool (.lit false))))), none⟩])
 .ret))))⟩
/- (*corral/home.Home).Busy -/
def af18 : AFunc := ⟨7, [.t 2],
 (.seq (.reg [⟨(some 2), (.p (.mv (.c (.bool (.lit false))))), none⟩])
 (.seq (.reg [⟨(some 3), (.p (.mv (.t 0))), none⟩, ⟨(some 4), (.p (.nilCheck (.t 3))), none⟩, ⟨(some 5), (.p (.fieldAddr 8 (.t 4))), none⟩, ⟨(some 6), (.load false 1 (.t 5)), none⟩, ⟨(some 2), (.p (.mv (.t 6))), none⟩])
 .ret))⟩
/- (*corral/home.Home).Owner -/
def af19 : AFunc := ⟨7, [.t 2],
 (.seq (.reg [⟨(some 2), (.p (.mv (.c (.int .i64 (.lit 0))))), none⟩])
 (.seq (.reg [⟨(some 3), (.p (.mv (.t 0))), none⟩, ⟨(some 4), (.p (.nilCheck (.t 3))), none⟩, ⟨(some 5), (.p (.fieldAddr 6 (.t 4))), none⟩, ⟨(some 6), (.load false 1 (.t 5)), none⟩, ⟨(some 2), (.p (.mv (.t 6))), none⟩])
 .ret))⟩
/- (*corral/home.Home).share -/
def af43 : AFunc := ⟨86, [.t 2],
 (.seq (.reg [⟨(some 2), (.p (.mv (.c .nilSlice))), none⟩])
 (.seq (.reg [⟨(some 7), (.p (.mv (.t 0))), none⟩, ⟨(some 8), (.p (.nilCheck (.t 7))), none⟩, ⟨(some 9), (.p (.fieldAddr 9 (.t 8))), none⟩, ⟨(some 10), (.load false 1 (.t 9)), none⟩, ⟨(some 3), (.p (.mv (.t 10))), none⟩])
 (.seq (.seq (.reg [⟨(some 11), (.p (.mv (.t 0))), none⟩, ⟨(some 12), (.p (.nilCheck (.t 11))), none⟩, ⟨(some 13), (.p (.fieldAddr 6 (.t 12))), none⟩, ⟨(some 14), (.load false 1 (.t 13)), none⟩, ⟨(some 15), (.p (.bin 0 .neq (.t 14) (.c (.int .i64 (.lit (-1)))))), none⟩, ⟨(some 16), (.p (.mv (.t 15))), none⟩, ⟨(some 17), (.p (.mv (.t 0))), (some (16, true))⟩, ⟨(some 18), (.p (.nilCheck (.t 17))), (some (16, true))⟩, ⟨(some 19), (.p (.fieldAddr 6 (.t 18))), (some (16, true))⟩, ⟨(some 20), (.load false 1 (.t 19)), (some (16, true))⟩, ⟨(some 21), (.p (.mv (.t 3))), (some (16, true))⟩, ⟨(some 22), (.p (.bin 0 .neq (.t 20) (.t 21))), (some (16, true))⟩, ⟨(some 23), (.pick (.t 16) (.t 22) (.c (.bool (.lit false)))), none⟩])
 (.cond (.t 23) (.seq (.reg [⟨(some 24), (.p (.mv (.t 0))), none⟩, ⟨(some 25), (.p (.mv (.t 0))), none⟩, ⟨(some 26), (.p (.nilCheck (.t 25))), none⟩, ⟨(some 27), (.p (.fieldAddr 6 (.t 26))), none⟩, ⟨(some 28), (.load false 1 (.t 27)), none⟩, ⟨(some 29), (.p (.nilCheck (.t 24))), none⟩, ⟨(some 30), (.p (.fieldAddr 11 (.t 29))), none⟩, ⟨none, (.store 1 (.t 30) (.t 28)), none⟩])
 (.seq (.reg [⟨(some 31), (.p (.mv (.t 0))), none⟩, ⟨(some 32), (.p (.mv (.t 0))), none⟩, ⟨(some 33), (.p (.nilCheck (.t 32))), none⟩, ⟨(some 34), (.p (.fieldAddr 6 (.t 33))), none⟩, ⟨(some 35), (.load false 1 (.t 34)), none⟩, ⟨(some 36), (.call (.f 45) [(.t 31), (.t 35), (.c (.int .i64 (.lit 5)))]), none⟩, ⟨(some 37), (.mkArr 11 1 [(.int .i64 (.lit 0)), (.int .i64 (.lit 0)), (.int .i64 (.lit 0)), (.int .i64 (.lit 0)), (.int .u32 (.lit 0)), (.int .u32 (.lit 0)), (.int .u32 (.lit 0)), (.int .u32 (.lit 0)), (.bool (.lit false)), (.bool (.lit false)), (.bool (.lit false))] [(0, 11, (.t 36))]), none⟩, ⟨(some 2), (.p (.mv (.t 37))), none⟩])
 .ret))
 .skip))
 (.seq (.reg [⟨(some 38), (.p (.mv (.t 0))), none⟩, ⟨(some 39), (.p (.nilCheck (.t 38))), none⟩, ⟨(some 40), (.p (.fieldAddr 6 (.t 39))), none⟩, ⟨none, (.store 1 (.t 40) (.c (.int .i64 (.lit (-1))))), none⟩])
 (.seq (.reg [⟨(some 4), (.p (.mv (.c (.bool (.lit true))))), none⟩])
 (.seq (.seq (.reg [⟨(some 41), (.p (.mv (.t 0))), none⟩, ⟨(some 42), (.p (.nilCheck (.t 41))), none⟩, ⟨(some 43), (.p (.fieldAddr 7 (.t 42))), none⟩, ⟨(some 44), (.load false 1 (.t 43)), none⟩, ⟨(some 45), (.p (.lenS (.t 44))), none⟩, ⟨(some 46), (.p (.mv (.c (.int .i64 (.lit 0))))), none⟩])
 (.block 0 (.loop (.seq (.reg [⟨(some 47), (.p (.bin 0 .lss (.t 46) (.t 45))), none⟩])
 (.seq (.cond (.t 47) .skip
 (.exit 0))
 (.seq (.block 1 (.seq (.reg [⟨(some 48), (.p (.mv (.t 46))), none⟩, ⟨(some 49), (.p (.idxSl 1 (.t 44) (.t 46))), none⟩, ⟨(some 50), (.load false 1 (.t 49)), none⟩, ⟨(some 5), (.p (.mv (.t 48))), none⟩, ⟨(some 6), (.p (.mv (.t 50))), none⟩])
 (.reg [⟨(some 51), (.p (.mv (.t 4))), none⟩, ⟨(some 52), (.p (.mv (.t 51))), none⟩, ⟨(some 53), (.p (.mv (.t 6))), (some (52, true))⟩, ⟨(some 54), (.p (.un .not (.t 53))), (some (52, true))⟩, ⟨(some 55), (.p (.mv (.t 54))), (some (52, true))⟩, ⟨(some 56), (.p (.mv (.t 5))), (some (55, false))⟩, ⟨(some 57), (.p (.mv (.t 3))), (some (55, false))⟩, ⟨(some 58), (.p (.bin 0 .eql (.t 56) (.t 57))), (some (55, false))⟩, ⟨(some 59), (.pick (.t 55) (.c (.bool (.lit true))) (.t 58)), (some (52, true))⟩, ⟨(some 60), (.pick (.t 52) (.t 59) (.c (.bool (.lit false)))), none⟩, ⟨(some 4), (.p (.mv (.t 60))), none⟩])))
 (.reg [⟨(some 61), (.p (.bin 0 .add (.t 46) (.c (.int .i64 (.lit 1))))), none⟩, ⟨(some 46), (.p (.mv (.t 61))), none⟩])))))))
 (.seq (.seq (.reg [⟨(some 62), (.p (.mv (.t 4))), none⟩])
 (.cond (.t 62) (.reg [⟨(some 63), (.p (.mv (.t 0))), none⟩, ⟨(some 64), (.p (.mv (.t 0))), none⟩, ⟨(some 65), (.p (.nilCheck (.t 64))), none⟩, ⟨(some 66), (.p (.fieldAddr 7 (.t 65))), none⟩, ⟨(some 67), (.load false 1 (.t 66)), none⟩, ⟨(some 68), (.p (.mv (.t 3))), none⟩, ⟨(some 69), (.p (.mv (.t 3))), none⟩, ⟨(some 70), (.p (.nilCheck (.t 63))), none⟩, ⟨(some 71), (.p (.fieldAddr 6 (.t 70))), none⟩, ⟨none, (.store 1 (.t 71) (.t 69)), none⟩, ⟨(some 72), (.p (.idxSl 1 (.t 67) (.t 68))), none⟩, ⟨none, (.store 1 (.t 72) (.c (.bool (.lit false)))), none⟩])
 (.reg [⟨(some 73), (.p (.mv (.t 0))), none⟩, ⟨(some 74), (.p (.nilCheck (.t 73))), none⟩, ⟨(some 75), (.p (.fieldAddr 7 (.t 74))), none⟩, ⟨(some 76), (.load false 1 (.t 75)), none⟩, ⟨(some 77), (.p (.mv (.t 3))), none⟩, ⟨(some 78), (.p (.idxSl 1 (.t 76) (.t 77))), none⟩, ⟨none, (.store 1 (.t 78) (.c (.bool (.lit true)))), none⟩])))
 (.seq (.reg [⟨(some 79), (.p (.mv (.t 0))), none⟩, ⟨(some 80), (.p (.mv (.t 0))), none⟩, ⟨(some 81), (.p (.nilCheck (.t 80))), none⟩, ⟨(some 82), (.p (.fieldAddr 2 (.t 81))), none⟩, ⟨(some 83), (.load true 4 (.t 82)), none⟩, ⟨(some 84), (.p (.mv (.t 4))), none⟩, ⟨(some 85), (.call (.f 80) [(.t 79), (.t 83), (.c (.bool (.lit false))), (.t 84)]), none⟩, ⟨(some 2), (.p (.mv (.t 85))), none⟩])
 .ret))))))))⟩
/- (*corral/home.Home).own -/
def af44 : AFunc := ⟨95, [.t 2],
 (.seq (.reg [⟨(some 2), (.p (.mv (.c .nilSlice))), none⟩])
 (.seq (.reg [⟨(some 3), (.p (.mv (.c .nilSlice))), none⟩])
 (.seq (.seq (.reg [⟨(some 7), (.p (.mv (.t 0))), none⟩, ⟨(some 8), (.p (.nilCheck (.t 7))), none⟩, ⟨(some 9), (.p (.fieldAddr 7 (.t 8))), none⟩, ⟨(some 10), (.load false 1 (.t 9)), none⟩, ⟨(some 11), (.p (.lenS (.t 10))), none⟩, ⟨(some 12), (.p (.mv (.c (.int .i64 (.lit 0))))), none⟩])
 (.block 0 (.loop (.seq (.reg [⟨(some 13), (.p (.bin 0 .lss (.t 12) (.t 11))), none⟩])
 (.seq (.cond (.t 13) .skip
 (.exit 0))
 (.seq (.block 1 (.seq (.reg [⟨(some 14), (.p (.mv (.t 12))), none⟩, ⟨(some 15), (.p (.idxSl 1 (.t 10) (.t 12))), none⟩, ⟨(some 16), (.load false 1 (.t 15)), none⟩, ⟨(some 4), (.p (.mv (.t 14))), none⟩, ⟨(some 5), (.p (.mv (.t 16))), none⟩])
 (.seq (.reg [⟨(some 17), (.p (.mv (.t 5))), none⟩, ⟨(some 18), (.p (.mv (.t 17))), none⟩, ⟨(some 19), (.p (.mv (.t 4))), (some (18, true))⟩, ⟨(some 20), (.p (.mv (.t 0))), (some (18, true))⟩, ⟨(some 21), (.p (.nilCheck (.t 20))), (some (18, true))⟩, ⟨(some 22), (.p (.fieldAddr 9 (.t 21))), (some (18, true))⟩, ⟨(some 23), (.load false 1 (.t 22)), (some (18, true))⟩, ⟨(some 24), (.p (.bin 0 .neq (.t 19) (.t 23))), (some (18, true))⟩, ⟨(some 25), (.pick (.t 18) (.t 24) (.c (.bool (.lit false)))), none⟩])
 (.cond (.t 25) (.reg [⟨(some 26), (.p (.mv (.t 0))), none⟩, ⟨(some 27), (.p (.nilCheck (.t 26))), none⟩, ⟨(some 28), (.p (.fieldAddr 12 (.t 27))), none⟩, ⟨(some 29), (.load false 1 (.t 28)), none⟩, ⟨(some 30), (.p (.mv (.t 4))), none⟩, ⟨(some 31), (.p (.idxSl 1 (.t 29) (.t 30))), none⟩, ⟨none, (.store 1 (.t 31) (.c (.bool (.lit true)))), none⟩])
 .skip))))
 (.reg [⟨(some 32), (.p (.bin 0 .add (.t 12) (.c (.int .i64 (.lit 1))))), none⟩, ⟨(some 12), (.p (.mv (.t 32))), none⟩])))))))
 (.seq (.seq (.draw [(⟨(some 33), (.p (.mv (.t 0))), none⟩, []), (⟨(some 34), (.p (.nilCheck (.t 33))), none⟩, []), (⟨(some 35), (.p (.fieldAddr 6 (.t 34))), none⟩, []), (⟨(some 36), (.load false 1 (.t 35)), none⟩, []), (⟨(some 37), (.p (.bin 0 .neq (.t 36) (.c (.int .i64 (.lit (-1)))))), none⟩, []), (⟨(some 38), (.p (.mv (.t 37))), none⟩, []), (⟨(some 39), (.p (.mv (.t 0))), (some (38, true))⟩, []), (⟨(some 40), (.p (.nilCheck (.t 39))), (some (38, true))⟩, []), (⟨(some 41), (.p (.fieldAddr 6 (.t 40))), (some (38, true))⟩, []), (⟨(some 42), (.load false 1 (.t 41)), (some (38, true))⟩, []), (⟨(some 43), (.p (.mv (.t 0))), (some (38, true))⟩, []), (⟨(some 44), (.p (.nilCheck (.t 43))), (some (38, true))⟩, []), (⟨(some 45), (.p (.fieldAddr 9 (.t 44))), (some (38, true))⟩, []), (⟨(some 46), (.load false 1 (.t 45)), (some (38, true))⟩, []), (⟨(some 47), (.p (.bin 0 .neq (.t 42) (.t 46))), (some (38, true))⟩, []), (⟨(some 48), (.pick (.t 38) (.t 47) (.c (.bool (.lit false)))), none⟩, [])])
 (.cond (.t 48) (.reg [⟨(some 49), (.p (.mv (.t 0))), none⟩, ⟨(some 50), (.p (.mv (.t 0))), none⟩, ⟨(some 51), (.p (.nilCheck (.t 50))), none⟩, ⟨(some 52), (.p (.fieldAddr 6 (.t 51))), none⟩, ⟨(some 53), (.load false 1 (.t 52)), none⟩, ⟨(some 54), (.p (.nilCheck (.t 49))), none⟩, ⟨(some 55), (.p (.fieldAddr 11 (.t 54))), none⟩, ⟨none, (.store 1 (.t 55) (.t 53)), none⟩])
 .skip))
 (.seq (.seq (.reg [⟨(some 56), (.p (.mv (.t 0))), none⟩, ⟨(some 57), (.p (.nilCheck (.t 56))), none⟩, ⟨(some 58), (.p (.fieldAddr 1 (.t 57))), none⟩, ⟨(some 59), (.load false 1 (.t 58)), none⟩, ⟨(some 60), (.p (.mv (.c (.int .i64 (.lit 0))))), none⟩])
 (.block 2 (.loop (.seq (.reg [⟨(some 61), (.p (.bin 0 .lss (.t 60) (.t 59))), none⟩])
 (.seq (.cond (.t 61) .skip
 (.exit 2))
 (.seq (.block 3 (.seq (.reg [⟨(some 62), (.p (.mv (.t 60))), none⟩, ⟨(some 6), (.p (.mv (.t 62))), none⟩])
 (.seq (.seq (.reg [⟨(some 63), (.p (.mv (.t 0))), none⟩, ⟨(some 64), (.p (.nilCheck (.t 63))), none⟩, ⟨(some 65), (.p (.fieldAddr 12 (.t 64))), none⟩, ⟨(some 66), (.load false 1 (.t 65)), none⟩, ⟨(some 67), (.p (.mv (.t 6))), none⟩, ⟨(some 68), (.p (.idxSl 1 (.t 66) (.t 67))), none⟩, ⟨(some 69), (.load false 1 (.t 68)), none⟩])
 (.cond (.t 69) (.reg [⟨(some 70), (.p (.mv (.t 3))), none⟩, ⟨(some 71), (.p (.mv (.t 0))), none⟩, ⟨(some 72), (.p (.mv (.t 6))), none⟩, ⟨(some 73), (.call (.f 45) [(.t 71), (.t 72), (.c (.int .i64 (.lit 4)))]), none⟩, ⟨(some 74), (.mkArr 11 1 [(.int .i64 (.lit 0)), (.int .i64 (.lit 0)), (.int .i64 (.lit 0)), (.int .i64 (.lit 0)), (.int .u32 (.lit 0)), (.int .u32 (.lit 0)), (.int .u32 (.lit 0)), (.int .u32 (.lit 0)), (.bool (.lit false)), (.bool (.lit false)), (.bool (.lit false))] [(0, 11, (.t 73))]), none⟩, ⟨(some 75), (.append 11 56 (.t 70) (.t 74)), none⟩, ⟨(some 3), (.p (.mv (.t 75))), none⟩])
 .skip))
 (.seq (.reg [⟨(some 76), (.p (.mv (.t 0))), none⟩, ⟨(some 77), (.p (.nilCheck (.t 76))), none⟩, ⟨(some 78), (.p (.fieldAddr 11 (.t 77))), none⟩, ⟨(some 79), (.load false 1 (.t 78)), none⟩, ⟨(some 80), (.p (.mv (.t 6))), none⟩, ⟨(some 81), (.p (.bin 0 .eql (.t 79) (.t 80))), none⟩])
 (.cond (.t 81) (.reg [⟨(some 82), (.p (.mv (.t 3))), none⟩, ⟨(some 83), (.p (.mv (.t 0))), none⟩, ⟨(some 84), (.p (.mv (.t 6))), none⟩, ⟨(some 85), (.call (.f 45) [(.t 83), (.t 84), (.c (.int .i64 (.lit 6)))]), none⟩, ⟨(some 86), (.mkArr 11 1 [(.int .i64 (.lit 0)), (.int .i64 (.lit 0)), (.int .i64 (.lit 0)), (.int .i64 (.lit 0)), (.int .u32 (.lit 0)), (.int .u32 (.lit 0)), (.int .u32 (.lit 0)), (.int .u32 (.lit 0)), (.bool (.lit false)), (.bool (.lit false)), (.bool (.lit false))] [(0, 11, (.t 85))]), none⟩, ⟨(some 87), (.append 11 56 (.t 82) (.t 86)), none⟩, ⟨(some 3), (.p (.mv (.t 87))), none⟩])
 .skip)))))
 (.reg [⟨(some 88), (.p (.bin 0 .add (.t 60) (.c (.int .i64 (.lit 1))))), none⟩, ⟨(some 60), (.p (.mv (.t 88))), none⟩])))))))
 (.seq (.seq (.reg [⟨(some 89), (.p (.mv (.t 3))), none⟩, ⟨(some 90), (.p (.lenS (.t 89))), none⟩, ⟨(some 91), (.p (.bin 0 .gtr (.t 90) (.c (.int .i64 (.lit 0))))), none⟩])
 (.cond (.t 91) (.seq (.reg [⟨(some 92), (.p (.mv (.t 3))), none⟩, ⟨(some 2), (.p (.mv (.t 92))), none⟩])
 .ret)
 .skip))
 (.seq (.reg [⟨(some 93), (.p (.mv (.t 0))), none⟩, ⟨(some 94), (.call (.f 46) [(.t 93)]), none⟩, ⟨(some 2), (.p (.mv (.t 94))), none⟩])
 .ret)))))))⟩
/- (*corral/home.Home).to -/
def af45 : AFunc := ⟨14, [.cell 6 true 11],
 (.seq (.reg [⟨(some 6), (.newC [(.int .i64 (.lit 0)), (.int .i64 (.lit 0)), (.int .i64 (.lit 0)), (.int .i64 (.lit 0)), (.int .u32 (.lit 0)), (.int .u32 (.lit 0)), (.int .u32 (.lit 0)), (.int .u32 (.lit 0)), (.bool (.lit false)), (.bool (.lit false)), (.bool (.lit false))]), none⟩])
 (.seq (.reg [⟨(some 7), (.p (.mv (.t 2))), none⟩, ⟨(some 8), (.p (.mv (.t 0))), none⟩, ⟨(some 9), (.p (.nilCheck (.t 8))), none⟩, ⟨(some 10), (.p (.fieldAddr 0 (.t 9))), none⟩, ⟨(some 11), (.load false 1 (.t 10)), none⟩, ⟨(some 12), (.p (.mv (.t 1))), none⟩, ⟨(some 13), (.p (.build [(.int .i64 (.lit 0)), (.int .i64 (.lit 0)), (.int .i64 (.lit 0)), (.int .i64 (.lit 0)), (.int .u32 (.lit 0)), (.int .u32 (.lit 0)), (.int .u32 (.lit 0)), (.int .u32 (.lit 0)), (.bool (.lit false)), (.bool (.lit false)), (.bool (.lit false))] [(0, 1, (.t 7)), (1, 1, (.t 11)), (2, 1, (.c (.int .i64 (.lit (-1))))), (3, 1, (.t 12))])), none⟩, ⟨none, (.store 11 (.t 6) (.t 13)), none⟩])
 .ret))⟩
/- (*corral/home.Home).owned -/
def af46 : AFunc := ⟨59, [.t 2],
 (.seq (.reg [⟨(some 2), (.p (.mv (.c .nilSlice))), none⟩])
 (.seq (.seq (.reg [⟨(some 4), (.p (.mv (.t 0))), none⟩, ⟨(some 5), (.call (.f 48) [(.t 4)]), none⟩])
 (.cond (.t 5) (.seq (.reg [⟨(some 2), (.p (.mv (.c .nilSlice))), none⟩])
 .ret)
 .skip))
 (.seq (.reg [⟨(some 6), (.p (.mv (.t 0))), none⟩, ⟨(some 7), (.p (.nilCheck (.t 6))), none⟩, ⟨(some 8), (.p (.fieldAddr 6 (.t 7))), none⟩, ⟨(some 9), (.load false 1 (.t 8)), none⟩, ⟨(some 3), (.p (.mv (.t 9))), none⟩])
 (.seq (.reg [⟨(some 10), (.p (.mv (.t 0))), none⟩, ⟨(some 11), (.p (.mv (.t 0))), none⟩, ⟨(some 12), (.p (.nilCheck (.t 11))), none⟩, ⟨(some 13), (.p (.fieldAddr 9 (.t 12))), none⟩, ⟨(some 14), (.load false 1 (.t 13)), none⟩, ⟨(some 15), (.p (.nilCheck (.t 10))), none⟩, ⟨(some 16), (.p (.fieldAddr 6 (.t 15))), none⟩, ⟨none, (.store 1 (.t 16) (.t 14)), none⟩])
 (.seq (.reg [⟨(some 17), (.p (.mv (.t 0))), none⟩, ⟨(some 18), (.p (.nilCheck (.t 17))), none⟩, ⟨(some 19), (.p (.fieldAddr 7 (.t 18))), none⟩, ⟨(some 20), (.load false 1 (.t 19)), none⟩, ⟨none, (.clear 1 [(.bool (.lit false))] (.t 20)), none⟩])
 (.seq (.block 0 (.seq (.reg [⟨(some 22), (.p (.mv (.t 3))), none⟩, ⟨(some 23), (.p (.mv (.t 0))), none⟩, ⟨(some 24), (.p (.nilCheck (.t 23))), none⟩, ⟨(some 25), (.p (.fieldAddr 9 (.t 24))), none⟩, ⟨(some 26), (.load false 1 (.t 25)), none⟩, ⟨(some 27), (.p (.bin 0 .eql (.t 22) (.t 26))), none⟩, ⟨(some 21), (.p (.mv (.t 27))), none⟩])
 (.cond (.t 21) (.seq (.reg [⟨(some 28), (.p (.mv (.t 0))), none⟩, ⟨(some 29), (.p (.mv (.t 0))), none⟩, ⟨(some 30), (.p (.nilCheck (.t 29))), none⟩, ⟨(some 31), (.p (.fieldAddr 9 (.t 30))), none⟩, ⟨(some 32), (.load false 1 (.t 31)), none⟩, ⟨(some 33), (.call (.f 45) [(.t 28), (.t 32), (.c (.int .i64 (.lit 8)))]), none⟩, ⟨(some 34), (.mkArr 11 1 [(.int .i64 (.lit 0)), (.int .i64 (.lit 0)), (.int .i64 (.lit 0)), (.int .i64 (.lit 0)), (.int .u32 (.lit 0)), (.int .u32 (.lit 0)), (.int .u32 (.lit 0)), (.int .u32 (.lit 0)), (.bool (.lit false)), (.bool (.lit false)), (.bool (.lit false))] [(0, 11, (.t 33))]), none⟩, ⟨(some 2), (.p (.mv (.t 34))), none⟩])
 .ret)
 (.seq (.reg [⟨(some 36), (.p (.mv (.t 0))), none⟩, ⟨(some 37), (.p (.nilCheck (.t 36))), none⟩, ⟨(some 38), (.p (.fieldAddr 13 (.t 37))), none⟩, ⟨(some 39), (.p (.fieldAddr 8 (.t 38))), none⟩, ⟨(some 40), (.load false 1 (.t 39)), none⟩, ⟨(some 35), (.p (.mv (.t 40))), none⟩])
 (.cond (.t 35) (.seq (.draw [(⟨(some 41), (.p (.mv (.t 0))), none⟩, []), (⟨(some 42), (.p (.mv (.t 0))), none⟩, []), (⟨(some 43), (.p (.nilCheck (.t 42))), none⟩, []), (⟨(some 44), (.p (.fieldAddr 13 (.t 43))), none⟩, []), (⟨(some 45), (.p (.fieldAddr 4 (.t 44))), none⟩, []), (⟨(some 46), (.load true 4 (.t 45)), none⟩, []), (⟨(some 47), (.p (.mv (.t 0))), none⟩, []), (⟨(some 48), (.p (.nilCheck (.t 47))), none⟩, []), (⟨(some 49), (.p (.fieldAddr 13 (.t 48))), none⟩, []), (⟨(some 50), (.p (.fieldAddr 9 (.t 49))), none⟩, []), (⟨(some 51), (.load false 1 (.t 50)), none⟩, []), (⟨(some 52), (.call (.f 80) [(.t 41), (.t 46), (.t 51), (.c (.bool (.lit true)))]), none⟩, []), (⟨(some 2), (.p (.mv (.t 52))), none⟩, [])])
 .ret)
 .skip)))))
 (.seq (.reg [⟨(some 53), (.p (.mv (.t 0))), none⟩, ⟨(some 54), (.p (.mv (.t 0))), none⟩, ⟨(some 55), (.p (.nilCheck (.t 54))), none⟩, ⟨(some 56), (.p (.fieldAddr 2 (.t 55))), none⟩, ⟨(some 57), (.load true 4 (.t 56)), none⟩, ⟨(some 58), (.call (.f 80) [(.t 53), (.t 57), (.c (.bool (.lit false))), (.c (.bool (.lit true)))]), none⟩, ⟨(some 2), (.p (.mv (.t 58))), none⟩])
 .ret)))))))⟩
/- (*corral/home.Home).shared -/
def af47 : AFunc := ⟨47, [.t 4],
 (.seq (.reg [⟨(some 3), (.box 11 (.t 1)), none⟩, ⟨(some 4), (.p (.mv (.c .nilSlice))), none⟩])
 (.seq (.draw [(⟨(some 6), (.p (.mv (.t 0))), none⟩, []), (⟨(some 7), (.p (.nilCheck (.t 6))), none⟩, []), (⟨(some 8), (.p (.fieldAddr 7 (.t 7))), none⟩, []), (⟨(some 9), (.load false 1 (.t 8)), none⟩, []), (⟨(some 10), (.p (.mv (.t 0))), none⟩, []), (⟨(some 11), (.p (.nilCheck (.t 10))), none⟩, []), (⟨(some 12), (.p (.fieldAddr 9 (.t 11))), none⟩, []), (⟨(some 13), (.load false 1 (.t 12)), none⟩, []), (⟨(some 14), (.p (.idxSl 1 (.t 9) (.t 13))), none⟩, []), (⟨none, (.store 1 (.t 14) (.c (.bool (.lit true)))), none⟩, [])])
 (.seq (.reg [⟨(some 15), (.p (.mv (.t 0))), none⟩, ⟨(some 16), (.p (.nilCheck (.t 15))), none⟩, ⟨(some 17), (.p (.fieldAddr 2 (.t 16))), none⟩, ⟨(some 18), (.load true 4 (.t 17)), none⟩, ⟨(some 5), (.newC [(.int .u32 (.lit 0)), (.int .u32 (.lit 0)), (.int .u32 (.lit 0)), (.int .u32 (.lit 0))]), none⟩, ⟨none, (.store 4 (.t 5) (.t 18)), none⟩])
 (.seq (.seq (.reg [⟨(some 19), (.p (.fieldAddr 9 (.t 3))), none⟩, ⟨(some 20), (.load false 1 (.t 19)), none⟩, ⟨(some 21), (.p (.mv (.t 20))), none⟩, ⟨(some 22), (.p (.fieldAddr 8 (.t 3))), (some (21, false))⟩, ⟨(some 23), (.load false 1 (.t 22)), (some (21, false))⟩, ⟨(some 24), (.pick (.t 21) (.c (.bool (.lit true))) (.t 23)), none⟩])
 (.cond (.t 24) (.reg [⟨(some 25), (.p (.fieldAddr 4 (.t 3))), none⟩, ⟨(some 26), (.load true 4 (.t 25)), none⟩, ⟨none, (.store 4 (.t 5) (.t 26)), none⟩])
 .skip))
 (.seq (.seq (.reg [⟨(some 27), (.p (.fieldAddr 9 (.t 3))), none⟩, ⟨(some 28), (.load false 1 (.t 27)), none⟩, ⟨(some 29), (.p (.un .not (.t 28))), none⟩])
 (.cond (.t 29) (.seq (.seq (.reg [⟨(some 30), (.p (.fieldAddr 8 (.t 3))), none⟩, ⟨(some 31), (.load false 1 (.t 30)), none⟩])
 (.cond (.t 31) (.draw [(⟨(some 32), (.p (.mv (.t 0))), none⟩, []), (⟨(some 33), (.p (.nilCheck (.t 32))), none⟩, []), (⟨(some 34), (.p (.fieldAddr 7 (.t 33))), none⟩, []), (⟨(some 35), (.load false 1 (.t 34)), none⟩, []), (⟨(some 36), (.p (.mv (.t 0))), none⟩, []), (⟨(some 37), (.p (.nilCheck (.t 36))), none⟩, []), (⟨(some 38), (.p (.fieldAddr 6 (.t 37))), none⟩, []), (⟨(some 39), (.load false 1 (.t 38)), none⟩, []), (⟨(some 40), (.p (.idxSl 1 (.t 35) (.t 39))), none⟩, []), (⟨none, (.store 1 (.t 40) (.c (.bool (.lit true)))), none⟩, [])])
 .skip))
 (.reg [⟨(some 41), (.p (.mv (.t 0))), none⟩, ⟨(some 42), (.p (.nilCheck (.t 41))), none⟩, ⟨(some 43), (.p (.fieldAddr 6 (.t 42))), none⟩, ⟨none, (.store 1 (.t 43) (.c (.int .i64 (.lit (-1))))), none⟩]))
 .skip))
 (.seq (.reg [⟨(some 44), (.p (.mv (.t 0))), none⟩, ⟨(some 45), (.load true 4 (.t 5)), none⟩, ⟨(some 46), (.call (.f 80) [(.t 44), (.t 45), (.c (.bool (.lit false))), (.c (.bool (.lit false)))]), none⟩, ⟨(some 4), (.p (.mv (.t 46))), none⟩])
 .ret))))))⟩
/- (*corral/home.Home).waits -/
def af48 : AFunc := ⟨15, [.t 2],
 (.seq (.reg [⟨(some 2), (.p (.mv (.c (.bool (.lit false))))), none⟩])
 (.seq (.reg [⟨(some 3), (.p (.mv (.t 0))), none⟩, ⟨(some 4), (.p (.nilCheck (.t 3))), none⟩, ⟨(some 5), (.p (.fieldAddr 11 (.t 4))), none⟩, ⟨(some 6), (.load false 1 (.t 5)), none⟩, ⟨(some 7), (.p (.bin 0 .neq (.t 6) (.c (.int .i64 (.lit (-1)))))), none⟩, ⟨(some 8), (.p (.mv (.t 7))), none⟩, ⟨(some 9), (.p (.mv (.t 0))), (some (8, false))⟩, ⟨(some 10), (.p (.nilCheck (.t 9))), (some (8, false))⟩, ⟨(some 11), (.p (.fieldAddr 12 (.t 10))), (some (8, false))⟩, ⟨(some 12), (.load false 1 (.t 11)), (some (8, false))⟩, ⟨(some 13), (.call (.f 81) [(.t 12), (.c (.bool (.lit true)))]), (some (8, false))⟩, ⟨(some 14), (.pick (.t 8) (.c (.bool (.lit true))) (.t 13)), none⟩, ⟨(some 2), (.p (.mv (.t 14))), none⟩])
 .ret))⟩
/- (*corral/home.Home).hand -/
def af80 : AFunc := ⟨25, [.t 8],
 (.seq (.reg [⟨(some 5), (.box 4 (.t 1)), none⟩, ⟨(some 8), (.p (.mv (.c .nilSlice))), none⟩])
 (.seq (.reg [⟨(some 10), (.p (.mv (.t 0))), none⟩, ⟨(some 11), (.p (.mv (.t 0))), none⟩, ⟨(some 12), (.p (.nilCheck (.t 11))), none⟩, ⟨(some 13), (.p (.fieldAddr 9 (.t 12))), none⟩, ⟨(some 14), (.load false 1 (.t 13)), none⟩, ⟨(some 15), (.call (.f 45) [(.t 10), (.t 14), (.c (.int .i64 (.lit 7)))]), none⟩, ⟨(some 9), (.newC [(.int .i64 (.lit 0)), (.int .i64 (.lit 0)), (.int .i64 (.lit 0)), (.int .i64 (.lit 0)), (.int .u32 (.lit 0)), (.int .u32 (.lit 0)), (.int .u32 (.lit 0)), (.int .u32 (.lit 0)), (.bool (.lit false)), (.bool (.lit false)), (.bool (.lit false))]), none⟩, ⟨none, (.store 11 (.t 9) (.t 15)), none⟩])
 (.seq (.reg [⟨(some 16), (.load true 4 (.t 5)), none⟩, ⟨(some 17), (.p (.mv (.t 2))), none⟩, ⟨(some 18), (.p (.mv (.t 3))), none⟩, ⟨(some 19), (.p (.fieldAddr 4 (.t 9))), none⟩, ⟨none, (.store 4 (.t 19) (.t 16)), none⟩, ⟨(some 20), (.p (.fieldAddr 8 (.t 9))), none⟩, ⟨none, (.store 1 (.t 20) (.c (.bool (.lit true)))), none⟩, ⟨(some 21), (.p (.fieldAddr 9 (.t 9))), none⟩, ⟨none, (.store 1 (.t 21) (.t 17)), none⟩, ⟨(some 22), (.p (.fieldAddr 10 (.t 9))), none⟩, ⟨none, (.store 1 (.t 22) (.t 18)), none⟩])
 (.seq (.reg [⟨(some 23), (.load true 11 (.t 9)), none⟩, ⟨(some 24), (.mkArr 11 1 [(.int .i64 (.lit 0)), (.int .i64 (.lit 0)), (.int .i64 (.lit 0)), (.int .i64 (.lit 0)), (.int .u32 (.lit 0)), (.int .u32 (.lit 0)), (.int .u32 (.lit 0)), (.int .u32 (.lit 0)), (.bool (.lit false)), (.bool (.lit false)), (.bool (.lit false))] [(0, 11, (.t 23))]), none⟩, ⟨(some 8), (.p (.mv (.t 24))), none⟩])
 .ret))))⟩
/- slices.Contains[[]bool,bool] -/
def af81 : AFunc := ⟨9, [.t 4],
 (.seq (.reg [⟨(some 4), (.p (.mv (.c (.bool (.lit false))))), none⟩])
 (.seq (.reg [⟨(some 5), (.p (.mv (.t 0))), none⟩, ⟨(some 6), (.p (.mv (.t 1))), none⟩, ⟨(some 7), (.call (.f 86) [(.t 5), (.t 6)]), none⟩, ⟨(some 8), (.p (.bin 0 .geq (.t 7) (.c (.int .i64 (.lit 0))))), none⟩, ⟨(some 4), (.p (.mv (.t 8))), none⟩])
 .ret))⟩
/- slices.Index[[]bool,bool] -/
def af86 : AFunc := ⟨19, [.t 4],
 (.seq (.reg [⟨(some 4), (.p (.mv (.c (.int .i64 (.lit 0))))), none⟩])
 (.seq (.seq (.reg [⟨(some 6), (.p (.mv (.t 0))), none⟩, ⟨(some 7), (.p (.lenS (.t 6))), none⟩, ⟨(some 8), (.p (.mv (.c (.int .i64 (.lit 0))))), none⟩])
 (.block 0 (.loop (.seq (.reg [⟨(some 9), (.p (.bin 0 .lss (.t 8) (.t 7))), none⟩])
 (.seq (.cond (.t 9) .skip
 (.exit 0))
 (.seq (.block 1 (.seq (.reg [⟨(some 10), (.p (.mv (.t 8))), none⟩, ⟨(some 5), (.p (.mv (.t 10))), none⟩])
 (.seq (.reg [⟨(some 11), (.p (.mv (.t 1))), none⟩, ⟨(some 12), (.p (.mv (.t 0))), none⟩, ⟨(some 13), (.p (.mv (.t 5))), none⟩, ⟨(some 14), (.p (.idxSl 1 (.t 12) (.t 13))), none⟩, ⟨(some 15), (.load false 1 (.t 14)), none⟩, ⟨(some 16), (.p (.bin 1 .eql (.t 11) (.t 15))), none⟩])
 (.cond (.t 16) (.seq (.reg [⟨(some 17), (.p (.mv (.t 5))), none⟩, ⟨(some 4), (.p (.mv (.t 17))), none⟩])
 .ret)
 .skip))))
 (.reg [⟨(some 18), (.p (.bin 0 .add (.t 8) (.c (.int .i64 (.lit 1))))), none⟩, ⟨(some 8), (.p (.mv (.t 18))), none⟩])))))))
 (.seq (.reg [⟨(some 4), (.p (.mv (.c (.int .i64 (.lit (-1)))))), none⟩])
 .ret)))⟩
def F : Nat → Option AFunc
  | 3 => some af3
  | 13 => some af13
  | 14 => some af14
  | 15 => some af15
  | 16 => some af16
  | 17 => some af17
  | 18 => some af18
  | 19 => some af19
  | 43 => some af43
  | 44 => some af44
  | 45 => some af45
  | 46 => some af46
  | 47 => some af47
  | 48 => some af48
  | 80 => some af80
  | 81 => some af81
  | 86 => some af86
  | _ => none
theorem cf3 : cFunc Try.prog 3 = some af3 := by kernel_rfl
theorem cf13 : cFunc Try.prog 13 = some af13 := by kernel_rfl
theorem cf14 : cFunc Try.prog 14 = some af14 := by kernel_rfl
theorem cf15 : cFunc Try.prog 15 = some af15 := by kernel_rfl
theorem cf16 : cFunc Try.prog 16 = some af16 := by kernel_rfl
theorem cf17 : cFunc Try.prog 17 = some af17 := by kernel_rfl
theorem cf18 : cFunc Try.prog 18 = some af18 := by kernel_rfl
theorem cf19 : cFunc Try.prog 19 = some af19 := by kernel_rfl
theorem cf43 : cFunc Try.prog 43 = some af43 := by kernel_rfl
theorem cf44 : cFunc Try.prog 44 = some af44 := by kernel_rfl
theorem cf45 : cFunc Try.prog 45 = some af45 := by kernel_rfl
theorem cf46 : cFunc Try.prog 46 = some af46 := by kernel_rfl
theorem cf47 : cFunc Try.prog 47 = some af47 := by kernel_rfl
theorem cf48 : cFunc Try.prog 48 = some af48 := by kernel_rfl
theorem cf80 : cFunc Try.prog 80 = some af80 := by kernel_rfl
theorem cf81 : cFunc Try.prog 81 = some af81 := by kernel_rfl
theorem cf86 : cFunc Try.prog 86 = some af86 := by kernel_rfl
theorem hF : ∀ f af, F f = some af → cFunc Try.prog f = some af := by
  intro f af h
  unfold F at h
  split at h
  · cases h; exact cf3
  · cases h; exact cf13
  · cases h; exact cf14
  · cases h; exact cf15
  · cases h; exact cf16
  · cases h; exact cf17
  · cases h; exact cf18
  · cases h; exact cf19
  · cases h; exact cf43
  · cases h; exact cf44
  · cases h; exact cf45
  · cases h; exact cf46
  · cases h; exact cf47
  · cases h; exact cf48
  · cases h; exact cf80
  · cases h; exact cf81
  · cases h; exact cf86
  · cases h
theorem mixed : Try.prog.follows .mixedOrders = true := Try.checked.mixed
def doorH : Hp := hpE
theorem doorH_ok : doorOK doorH = true := by kernel_rfl
def G : Nat → Option Nat := fun _ => none
theorem G_lt : ∀ g id, G g = some id → id < doorH.sz := fun g id h => by cases h
end Go.Proofs.Ytagaclifeoiepaa.homeAlone

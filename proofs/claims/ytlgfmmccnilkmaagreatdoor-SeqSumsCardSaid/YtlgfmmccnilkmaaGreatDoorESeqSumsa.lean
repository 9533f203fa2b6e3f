/- Functions that SeqSums comes to, as the symbolic machine runs them. No condition. -/
import Derived.Test.YtlgfmmccnilkmaaGreatDoorRows
import Derived.Test.YtlgfmmccnilkmaaGreatDoorSyDoor
import Derived.Test.YtlgfmmccnilkmaaGreatDoorSyUse
namespace Go.Proofs.YtlgfmmccnilkmaaGreatDoor.seqSums
open Go.Sx
set_option linter.unusedVariables false
set_option linter.unusedSimpArgs false
set_option maxRecDepth 1000000
def mv' (a b : Nat) : AOper := ⟨some a, .p (.mv (.t b)), none⟩
def fa' (a k b : Nat) : AOper := ⟨some a, .p (.fieldAddr k (.t b)), none⟩
def ld' (a n b : Nat) : AOper := ⟨some a, .load false n (.t b), none⟩
def lg' (a n b : Nat) : AOper := ⟨some a, .load true n (.t b), none⟩
def nc' (a b : Nat) : AOper := ⟨some a, .p (.nilCheck (.t b)), none⟩
def ex' (a i b : Nat) : AOper := ⟨some a, .p (.extract i (.t b)), none⟩
def so' (n a b : Nat) : AOper := ⟨none, .store n (.t a) (.t b), none⟩
def i6' (n : Int) : SV := .int .i64 (.lit n)
def u3' (n : Int) : SV := .int .u32 (.lit n)
def bo' (b : Bool) : SV := .bool (.lit b)
/- corral/corrallaw11.SeqSums -/
def af3 : AFunc := ⟨86, [.t 4],
 (.seq (.reg [⟨(some 4), (.p (.mv (.c (bo' false)))), none⟩])
 (.seq (.reg [⟨(some 13), (.call (.f 5) []), none⟩, (mv' 5 13)])
 (.seq (.seq (.reg [(mv' 14 5), ⟨(some 15), (.p (.un .not (.t 14))), none⟩])
 (.cond (.t 15) (.seq (.reg [⟨(some 4), (.p (.mv (.c (bo' false)))), none⟩])
 .ret)
 .skip))
 (.seq (.reg [(mv' 16 0), ⟨(some 17), (.call (.f 6) [(.t 16), (.c (i6' 30))]), none⟩, ⟨(some 18), (.p (.bin 0 .add (.t 17) (.c (i6' 1)))), none⟩, (mv' 0 18)])
 (.seq (.reg [(mv' 19 1), ⟨(some 20), (.p (.bin 0 .and (.t 19) (.c (u3' 1023)))), none⟩, (mv' 1 20)])
 (.seq (.reg [(mv' 21 0), ⟨(some 22), (.p (.conv .u32 (.t 21))), none⟩, ⟨(some 23), (.call (.f 7) [(.c (i6' 19)), (.c (i6' 1)), (.c (i6' 0)), (.c (i6' 0)), (.t 22)]), none⟩, (mv' 24 1), ⟨(some 25), (.call (.f 7) [(.c (i6' 19)), (.c (i6' 3)), (.c (i6' 3)), (.c (i6' 0)), (.t 24)]), none⟩, ⟨(some 26), (.call (.f 7) [(.c (i6' 19)), (.c (i6' 1)), (.c (i6' 1)), (.c (i6' 0)), (.c (u3' 4294967295))]), none⟩, ⟨(some 27), (.call (.f 7) [(.c (i6' 6)), (.c (i6' 0)), (.c (i6' 1)), (.c (i6' 0)), (.c (u3' 4294967288))]), none⟩, ⟨(some 28), (.call (.f 7) [(.c (i6' 18)), (.c (i6' 0)), (.c (i6' 0)), (.c (i6' 3)), (.c (u3' 96))]), none⟩, ⟨(some 29), (.mkArr 1 5 [(u3' 0)] [(0, 1, (.t 23)), (1, 1, (.t 25)), (2, 1, (.t 26)), (3, 1, (.t 27)), (4, 1, (.t 28))]), none⟩, (mv' 6 29)])
 (.seq (.reg [(mv' 31 6), ⟨(some 32), (.call (.f 8) [(.c (i6' 1)), (.c (i6' 128)), (.t 31)]), none⟩, (mv' 30 32), (ex' 33 0 30), (ex' 34 1 30), (mv' 7 33), (mv' 8 34)])
 (.seq (.seq (.reg [(mv' 35 7), ⟨(some 36), (.p (.nilEq 0 false (.t 35) (.c .nilPtr))), none⟩, (mv' 37 36), ⟨(some 38), (.p (.mv (.t 8))), (some (37, false))⟩, ⟨(some 39), (.ifEq true true [15, 17, 27, 36, 40, 58, 101, 102, 132, 134, 140, 198, 208] (.t 38) (.c .nilIface)), (some (37, false))⟩, ⟨(some 40), (.pick (.t 37) (.c (bo' true)) (.t 39)), none⟩])
 (.cond (.t 40) (.seq (.reg [⟨(some 4), (.p (.mv (.c (bo' false)))), none⟩])
 .ret)
 .skip))
 (.seq (.reg [(mv' 41 0), ⟨(some 42), (.p (.bin 0 .mul (.c (i6' 3)) (.t 41))), none⟩, ⟨(some 43), (.p (.bin 0 .add (.t 42) (.c (i6' 2)))), none⟩, ⟨(some 44), (.mkSl 1 8 [(i6' 0)] (.t 43) (.t 43)), none⟩, (mv' 9 44)])
 (.seq (.reg [(mv' 45 7), (mv' 46 9), ⟨(some 47), (.call (.f 9) [(.t 45), (.t 46)]), none⟩, (mv' 10 47)])
 (.seq (.reg [(mv' 49 7), ⟨(some 50), (.call (.f 10) [(.t 49)]), none⟩, ⟨(some 51), (.call (.f 11) [(.t 50), (.c (u3' 96)), (.c (i6' 4))]), none⟩, (mv' 48 51), (ex' 52 0 48), (ex' 53 1 48), (mv' 11 52), (mv' 12 53)])
 (.seq (.reg [(mv' 54 5), (mv' 55 54), ⟨(some 56), (.p (.mv (.t 10))), (some (55, true))⟩, ⟨(some 57), (.p (.lenS (.t 56))), (some (55, true))⟩, ⟨(some 58), (.p (.mv (.t 0))), (some (55, true))⟩, ⟨(some 59), (.p (.bin 0 .mul (.c (i6' 3)) (.t 58))), (some (55, true))⟩, ⟨(some 60), (.p (.bin 0 .add (.t 59) (.c (i6' 2)))), (some (55, true))⟩, ⟨(some 61), (.p (.bin 0 .eql (.t 57) (.t 60))), (some (55, true))⟩, ⟨(some 62), (.pick (.t 55) (.t 61) (.c (bo' false))), none⟩, (mv' 63 62), ⟨(some 64), (.p (.mv (.t 11))), (some (63, true))⟩, ⟨(some 65), (.p (.mv (.t 0))), (some (63, true))⟩, ⟨(some 66), (.p (.conv .u32 (.t 65))), (some (63, true))⟩, ⟨(some 67), (.p (.mv (.t 1))), (some (63, true))⟩, ⟨(some 68), (.p (.bin 0 .mul (.t 66) (.t 67))), (some (63, true))⟩, ⟨(some 69), (.p (.bin 0 .eql (.t 64) (.t 68))), (some (63, true))⟩, ⟨(some 70), (.pick (.t 63) (.t 69) (.c (bo' false))), none⟩, (mv' 71 70), ⟨(some 72), (.p (.mv (.t 7))), (some (71, true))⟩, ⟨(some 73), (.call (.f 12) [(.t 72)]), (some (71, true))⟩, ⟨(some 74), (.p (.mv (.t 0))), (some (71, true))⟩, ⟨(some 75), (.p (.bin 0 .mul (.c (i6' 3)) (.t 74))), (some (71, true))⟩, ⟨(some 76), (.p (.bin 0 .add (.t 75) (.c (i6' 2)))), (some (71, true))⟩, ⟨(some 77), (.p (.bin 0 .mul (.c (i6' 2)) (.t 76))), (some (71, true))⟩, ⟨(some 78), (.p (.bin 0 .eql (.t 73) (.t 77))), (some (71, true))⟩, ⟨(some 79), (.pick (.t 71) (.t 78) (.c (bo' false))), none⟩, (mv' 80 79), ⟨(some 81), (.p (.mv (.t 7))), (some (80, true))⟩, ⟨(some 82), (.call (.f 13) [(.t 81), (.c (i6' 0))]), (some (80, true))⟩, ⟨(some 83), (.call (.f 14) [(.t 82)]), (some (80, true))⟩, ⟨(some 84), (.p (.bin 0 .eql (.t 83) (.c (u3' 20)))), (some (80, true))⟩, ⟨(some 85), (.pick (.t 80) (.t 84) (.c (bo' false))), none⟩, (mv' 4 85)])
 .ret))))))))))))⟩
/- corral/corrallaw11.first -/
def af5 : AFunc := ⟨42, [.t 0],
 (.seq (.reg [⟨(some 0), (.p (.mv (.c (bo' false)))), none⟩])
 (.seq (.reg [⟨(some 8), (.call (.f 7) [(.c (i6' 19)), (.c (i6' 1)), (.c (i6' 0)), (.c (i6' 0)), (.c (u3' 5))]), none⟩, ⟨(some 9), (.call (.f 7) [(.c (i6' 18)), (.c (i6' 0)), (.c (i6' 0)), (.c (i6' 1)), (.c (u3' 64))]), none⟩, ⟨(some 10), (.mkArr 1 2 [(u3' 0)] [(0, 1, (.t 8)), (1, 1, (.t 9))]), none⟩, ⟨(some 11), (.call (.f 8) [(.c (i6' 1)), (.c (i6' 128)), (.t 10)]), none⟩, (mv' 7 11), (ex' 12 0 7), (ex' 13 1 7), (mv' 1 12), (mv' 2 13)])
 (.seq (.seq (.reg [(mv' 14 1), ⟨(some 15), (.p (.nilEq 0 false (.t 14) (.c .nilPtr))), none⟩, (mv' 16 15), ⟨(some 17), (.p (.mv (.t 2))), (some (16, false))⟩, ⟨(some 18), (.ifEq true true [15, 17, 27, 36, 40, 58, 101, 102, 132, 134, 140, 198, 208] (.t 17) (.c .nilIface)), (some (16, false))⟩, ⟨(some 19), (.pick (.t 16) (.c (bo' true)) (.t 18)), none⟩])
 (.cond (.t 19) (.seq (.reg [⟨(some 0), (.p (.mv (.c (bo' false)))), none⟩])
 .ret)
 .skip))
 (.seq (.reg [(mv' 20 1), ⟨(some 21), (.mkArr 1 2 [(i6' 0)] [(0, 1, (.c (i6' 0))), (1, 1, (.c (i6' 0)))]), none⟩, ⟨(some 22), (.call (.f 9) [(.t 20), (.t 21)]), none⟩, (mv' 3 22)])
 (.seq (.reg [(mv' 23 1), ⟨(some 24), (.call (.f 10) [(.t 23)]), none⟩, (mv' 4 24)])
 (.seq (.seq (.reg [(mv' 25 4), ⟨(some 26), (.p (.nilEq 0 false (.t 25) (.c .nilPtr))), none⟩])
 (.cond (.t 26) (.seq (.reg [⟨(some 0), (.p (.mv (.c (bo' false)))), none⟩])
 .ret)
 .skip))
 (.seq (.reg [(mv' 28 4), ⟨(some 29), (.call (.f 11) [(.t 28), (.c (u3' 64)), (.c (i6' 4))]), none⟩, (mv' 27 29), (ex' 30 0 27), (ex' 31 1 27), (mv' 5 30), (mv' 6 31)])
 (.seq (.reg [(mv' 32 3), ⟨(some 33), (.p (.lenS (.t 32))), none⟩, ⟨(some 34), (.p (.bin 0 .eql (.t 33) (.c (i6' 2)))), none⟩, (mv' 35 34), ⟨(some 36), (.p (.mv (.t 5))), (some (35, true))⟩, ⟨(some 37), (.p (.bin 0 .eql (.t 36) (.c (u3' 5)))), (some (35, true))⟩, ⟨(some 38), (.pick (.t 35) (.t 37) (.c (bo' false))), none⟩, (mv' 39 38), ⟨(some 40), (.p (.mv (.t 6))), (some (39, true))⟩, ⟨(some 41), (.pick (.t 39) (.t 40) (.c (bo' false))), none⟩, (mv' 0 41)])
 .ret))))))))⟩
/- corral/corralworld.Number -/
def af6 : AFunc := ⟨12, [.t 4],
 (.seq (.reg [⟨(some 4), (.p (.mv (.c (i6' 0)))), none⟩])
 (.seq (.reg [(mv' 5 0), (mv' 6 1), ⟨(some 7), (.p (.bin 0 .rem (.t 5) (.t 6))), none⟩, (mv' 8 1), ⟨(some 9), (.p (.bin 0 .add (.t 7) (.t 8))), none⟩, (mv' 10 1), ⟨(some 11), (.p (.bin 0 .rem (.t 9) (.t 10))), none⟩, (mv' 4 11)])
 .ret))⟩
/- corral/corralworld.Word -/
def af7 : AFunc := ⟨26, [.t 10],
 (.seq (.reg [⟨(some 10), (.p (.mv (.c (u3' 0)))), none⟩])
 (.seq (.reg [(mv' 14 0), (mv' 15 1), (mv' 16 2), (mv' 17 3), (mv' 18 4), ⟨(some 19), (.p (.build [(i6' 0), (i6' 0), (i6' 0), (i6' 0), (i6' 0), (u3' 0), (bo' false), (bo' false)] [(0, 1, (.t 14)), (1, 1, (.t 15)), (2, 1, (.t 16)), (3, 1, (.t 17)), (5, 1, (.t 18))])), none⟩, ⟨(some 20), (.call (.f 17) [(.t 19)]), none⟩, (mv' 13 20), (ex' 21 0 13), (ex' 22 1 13), (mv' 11 21), (mv' 12 22)])
 (.seq (.seq (.reg [(mv' 23 12), ⟨(some 24), (.p (.bin 0 .neq (.t 23) (.c (i6' 0)))), none⟩])
 (.cond (.t 24) (.seq (.reg [⟨(some 10), (.p (.mv (.c (u3' 0)))), none⟩])
 .ret)
 .skip))
 (.seq (.reg [(mv' 25 11), (mv' 10 25)])
 .ret))))⟩
/- corral/seq.New -/
def af8 : AFunc := ⟨51, [.t 6, .t 7],
 (.seq (.reg [⟨(some 6), (.p (.mv (.c .nilPtr))), none⟩, ⟨(some 7), (.p (.mv (.c .nilIface))), none⟩])
 (.seq (.seq (.reg [(mv' 12 0), ⟨(some 13), (.p (.bin 0 .lss (.t 12) (.c (i6' 1)))), none⟩, (mv' 14 13), ⟨(some 15), (.p (.mv (.t 0))), (some (14, false))⟩, ⟨(some 16), (.p (.bin 0 .gtr (.t 15) (.c (i6' 4)))), (some (14, false))⟩, ⟨(some 17), (.pick (.t 14) (.c (bo' true)) (.t 16)), none⟩])
 (.cond (.t 17) (.seq (.draw [(⟨(some 18), (.load false 1 (.g 0)), none⟩, []), (⟨(some 6), (.p (.mv (.c .nilPtr))), none⟩, []), ((mv' 7 18), [])])
 .ret)
 .skip))
 (.seq (.reg [(mv' 20 1), (mv' 21 2), ⟨(some 22), (.call (.f 18) [(.t 20), (.t 21)]), none⟩, (mv' 19 22), (ex' 23 0 19), (ex' 24 1 19), (mv' 8 23), (mv' 9 24)])
 (.seq (.seq (.reg [(mv' 25 9), ⟨(some 26), (.ifEq true true [15, 17, 27, 36, 40, 58, 101, 102, 132, 134, 140, 198, 208] (.t 25) (.c .nilIface)), none⟩])
 (.cond (.t 26) (.seq (.reg [(mv' 27 9), ⟨(some 6), (.p (.mv (.c .nilPtr))), none⟩, (mv' 7 27)])
 .ret)
 .skip))
 (.seq (.reg [(mv' 28 8), ⟨(some 29), (.p (.build [.nilSlice, .nilPtr, (i6' 0)] [(1, 1, (.t 28))])), none⟩, ⟨(some 30), (.box 3 (.t 29)), none⟩, (mv' 10 30)])
 (.seq (.seq (.reg [(mv' 31 0), ⟨(some 32), (.p (.mv (.c (i6' 0)))), none⟩])
 (.block 0 (.loop (.seq (.reg [⟨(some 33), (.p (.bin 0 .lss (.t 32) (.t 31))), none⟩])
 (.seq (.cond (.t 33) .skip
 (.exit 0))
 (.seq (.block 1 (.seq (.reg [(mv' 34 32), (mv' 11 34)])
 (.draw [((mv' 35 10), []), ((mv' 36 10), []), ((nc' 37 36), []), ((fa' 38 0 37), []), ((ld' 39 1 38), [7]), ((mv' 40 11), []), ((mv' 41 1), []), (⟨(some 42), (.call (.f 19) [(.t 40), (.t 41)]), none⟩, []), (⟨(some 43), (.p (.build [.nilPtr, (bo' false), (u3' 0), (bo' false)] [(0, 1, (.t 42))])), none⟩, []), (⟨(some 44), (.box 4 (.t 43)), none⟩, []), (⟨(some 45), (.mkArr 1 1 [.nilPtr] [(0, 1, (.t 44))]), none⟩, []), (⟨(some 46), (.append 1 8 (.t 39) (.t 45)), none⟩, []), ((nc' 47 35), []), ((fa' 48 0 47), []), ((so' 1 48 46), [])])))
 (.reg [⟨(some 49), (.p (.bin 0 .add (.t 32) (.c (i6' 1)))), none⟩, (mv' 32 49)])))))))
 (.seq (.reg [(mv' 50 10), (mv' 6 50), ⟨(some 7), (.p (.mv (.c .nilIface))), none⟩])
 .ret)))))))⟩
/- (*corral/seq.Machine).Run -/
def af9 : AFunc := ⟨29, [.t 4],
 (.seq (.reg [⟨(some 4), (.p (.mv (.c .nilSlice))), none⟩])
 (.seq (.reg [⟨(some 5), (.p (.mv (.c .nilSlice))), none⟩])
 (.seq (.seq (.reg [(mv' 10 1), ⟨(some 11), (.p (.lenS (.t 10))), none⟩, ⟨(some 12), (.p (.mv (.c (i6' 0)))), none⟩])
 (.block 0 (.loop (.seq (.reg [⟨(some 13), (.p (.bin 0 .lss (.t 12) (.t 11))), none⟩])
 (.seq (.cond (.t 13) .skip
 (.exit 0))
 (.seq (.block 1 (.seq (.reg [⟨(some 14), (.p (.idxSl 1 (.t 10) (.t 12))), none⟩, (ld' 15 1 14), (mv' 7 15)])
 (.seq (.reg [(mv' 17 0), (mv' 18 7), ⟨(some 19), (.call (.f 20) [(.t 17), (.t 18)]), none⟩, (mv' 16 19), (ex' 20 0 16), (ex' 21 1 16), ⟨(some 8), (.newC [(i6' 0), (u3' 0), (u3' 0), (u3' 0), (u3' 0), (u3' 0), .nilSlice, .nilSlice, (u3' 0), (u3' 0), (bo' false), (i6' 0), (i6' 0)]), none⟩, (so' 13 8 20), (mv' 9 21)])
 (.seq (.reg [(mv' 22 9)])
 (.cond (.t 22) (.reg [(mv' 23 5), (lg' 24 13 8), ⟨(some 25), (.mkArr 13 1 [(i6' 0), (u3' 0), (u3' 0), (u3' 0), (u3' 0), (u3' 0), .nilSlice, .nilSlice, (u3' 0), (u3' 0), (bo' false), (i6' 0), (i6' 0)] [(0, 13, (.t 24))]), none⟩, ⟨(some 26), (.append 13 112 (.t 23) (.t 25)), none⟩, (mv' 5 26)])
 .skip)))))
 (.reg [⟨(some 27), (.p (.bin 0 .add (.t 12) (.c (i6' 1)))), none⟩, (mv' 12 27)])))))))
 (.seq (.reg [(mv' 28 5), (mv' 4 28)])
 .ret))))⟩
/- (*corral/seq.Machine).Memory -/
def af10 : AFunc := ⟨8, [.t 2],
 (.seq (.reg [⟨(some 2), (.p (.mv (.c .nilPtr))), none⟩])
 (.seq (.reg [(mv' 3 0), (nc' 4 3), (fa' 5 1 4), (ld' 6 1 5), ⟨(some 7), (.call (.f 21) [(.t 6)]), none⟩, (mv' 2 7)])
 .ret))⟩
/- (*corral/mem.Memory).Load -/
def af11 : AFunc := ⟨21, [.t 6, .t 7],
 (.seq (.reg [⟨(some 6), (.p (.mv (.c (u3' 0)))), none⟩, ⟨(some 7), (.p (.mv (.c (bo' false)))), none⟩])
 (.seq (.seq (.reg [(mv' 8 0), (mv' 9 1), (mv' 10 2), ⟨(some 11), (.call (.f 22) [(.t 8), (.t 9), (.t 10)]), none⟩, ⟨(some 12), (.p (.un .not (.t 11))), none⟩])
 (.cond (.t 12) (.seq (.reg [⟨(some 6), (.p (.mv (.c (u3' 0)))), none⟩, ⟨(some 7), (.p (.mv (.c (bo' false)))), none⟩])
 .ret)
 .skip))
 (.seq (.reg [(mv' 13 0), (nc' 14 13), (fa' 15 0 14), (ld' 16 1 15), (mv' 17 1), ⟨(some 18), (.p (.slice 1 (.t 16) (some (.t 17)) none)), none⟩, (mv' 19 2), ⟨(some 20), (.call (.f 23) [(.t 18), (.t 19)]), none⟩, (mv' 6 20), ⟨(some 7), (.p (.mv (.c (bo' true)))), none⟩])
 .ret)))⟩
/- (*corral/seq.Machine).Now -/
def af12 : AFunc := ⟨7, [.t 2],
 (.seq (.reg [⟨(some 2), (.p (.mv (.c (i6' 0)))), none⟩])
 (.seq (.reg [(mv' 3 0), (nc' 4 3), (fa' 5 2 4), (ld' 6 1 5), (mv' 2 6)])
 .ret))⟩
/- (*corral/seq.Machine).Hart -/
def af13 : AFunc := ⟨16, [.t 4],
 (.seq (.reg [⟨(some 4), (.p (.mv (.c .nilPtr))), none⟩])
 (.seq (.reg [(mv' 6 0), (mv' 7 1), ⟨(some 8), (.call (.f 24) [(.t 6), (.t 7)]), none⟩, (mv' 5 8)])
 (.seq (.seq (.reg [(mv' 9 5), ⟨(some 10), (.p (.nilEq 0 false (.t 9) (.c .nilPtr))), none⟩])
 (.cond (.t 10) (.seq (.reg [⟨(some 4), (.p (.mv (.c .nilPtr))), none⟩])
 .ret)
 .skip))
 (.seq (.reg [(mv' 11 5), (nc' 12 11), (fa' 13 0 12), (ld' 14 1 13), ⟨(some 15), (.call (.f 25) [(.t 14)]), none⟩, (mv' 4 15)])
 .ret))))⟩
/- (*corral/hart.Hart).PC -/
def af14 : AFunc := ⟨7, [.t 2],
 (.seq (.reg [⟨(some 2), (.p (.mv (.c (u3' 0)))), none⟩])
 (.seq (.reg [(mv' 3 0), (nc' 4 3), (fa' 5 11 4), (ld' 6 1 5), (mv' 2 6)])
 .ret))⟩
/- corral/corralref1.Encode -/
def af17 : AFunc := ⟨123, [.t 2, .t 3],
 (.seq (.reg [⟨(some 1), (.box 8 (.t 0)), none⟩, ⟨(some 2), (.p (.mv (.c (u3' 0)))), none⟩, ⟨(some 3), (.p (.mv (.c (i6' 0)))), none⟩])
 (.seq (.reg [(fa' 9 0 1), (ld' 10 1 9), ⟨(some 11), (.call (.f 27) [(.t 10)]), none⟩, (mv' 8 11), (ex' 12 0 8), (ex' 13 1 8), ⟨(some 4), (.newC [(i6' 0), (.str ⟨#[]⟩), (u3' 0), (u3' 0), (u3' 0), (bo' false), (bo' false), (.int .u8 (.lit 0)), (bo' false), (bo' false), (bo' false), (bo' false), (u3' 0), (bo' false)]), none⟩, (so' 14 4 12), (mv' 5 13)])
 (.seq (.seq (.reg [(mv' 14 5), ⟨(some 15), (.p (.un .not (.t 14))), none⟩])
 (.cond (.t 15) (.seq (.reg [⟨(some 2), (.p (.mv (.c (u3' 0)))), none⟩, ⟨(some 3), (.p (.mv (.c (i6' 102)))), none⟩])
 .ret)
 .skip))
 (.seq (.reg [(fa' 17 7 4), (ld' 18 1 17), (fa' 19 5 1), (ld' 20 1 19), ⟨(some 21), (.call (.f 28) [(.t 18), (.t 20)]), none⟩, (mv' 16 21), (ex' 22 0 16), (ex' 23 1 16), (mv' 6 22), (mv' 7 23)])
 (.seq (.seq (.reg [(fa' 24 1 1), (ld' 25 1 24), ⟨(some 26), (.call (.f 29) [(.t 25)]), none⟩, ⟨(some 27), (.p (.un .not (.t 26))), none⟩, (mv' 28 27), ⟨(some 29), (.p (.fieldAddr 2 (.t 1))), (some (28, false))⟩, ⟨(some 30), (.load false 1 (.t 29)), (some (28, false))⟩, ⟨(some 31), (.call (.f 29) [(.t 30)]), (some (28, false))⟩, ⟨(some 32), (.p (.un .not (.t 31))), (some (28, false))⟩, ⟨(some 33), (.pick (.t 28) (.c (bo' true)) (.t 32)), none⟩, (mv' 34 33), ⟨(some 35), (.p (.fieldAddr 3 (.t 1))), (some (34, false))⟩, ⟨(some 36), (.load false 1 (.t 35)), (some (34, false))⟩, ⟨(some 37), (.call (.f 29) [(.t 36)]), (some (34, false))⟩, ⟨(some 38), (.p (.un .not (.t 37))), (some (34, false))⟩, ⟨(some 39), (.pick (.t 34) (.c (bo' true)) (.t 38)), none⟩, (mv' 40 39), ⟨(some 41), (.p (.fieldAddr 4 (.t 1))), (some (40, false))⟩, ⟨(some 42), (.load false 1 (.t 41)), (some (40, false))⟩, ⟨(some 43), (.p (.bin 0 .lss (.t 42) (.c (i6' 0)))), (some (40, false))⟩, ⟨(some 44), (.pick (.t 40) (.c (bo' true)) (.t 43)), none⟩, (mv' 45 44), ⟨(some 46), (.p (.fieldAddr 4 (.t 1))), (some (45, false))⟩, ⟨(some 47), (.load false 1 (.t 46)), (some (45, false))⟩, ⟨(some 48), (.p (.bin 0 .gtr (.t 47) (.c (i6' 4095)))), (some (45, false))⟩, ⟨(some 49), (.pick (.t 45) (.c (bo' true)) (.t 48)), none⟩, (mv' 50 49), ⟨(some 51), (.p (.fieldAddr 7 (.t 4))), (some (50, false))⟩, ⟨(some 52), (.load false 1 (.t 51)), (some (50, false))⟩, ⟨(some 53), (.p (.bin 0 .neq (.t 52) (.c (.int .u8 (.lit 0))))), (some (50, false))⟩, ⟨(some 54), (.p (.mv (.t 53))), (some (50, false))⟩, ⟨(some 55), (.p (.mv (.t 7))), (some (54, true))⟩, ⟨(some 56), (.p (.un .not (.t 55))), (some (54, true))⟩, ⟨(some 57), (.pick (.t 54) (.t 56) (.c (bo' false))), (some (50, false))⟩, ⟨(some 58), (.pick (.t 50) (.c (bo' true)) (.t 57)), none⟩])
 (.cond (.t 58) (.seq (.reg [⟨(some 2), (.p (.mv (.c (u3' 0)))), none⟩, ⟨(some 3), (.p (.mv (.c (i6' 106)))), none⟩])
 .ret)
 .skip))
 (.seq (.seq (.reg [(fa' 59 8 4), (ld' 60 1 59), ⟨(some 61), (.p (.un .not (.t 60))), none⟩, (mv' 62 61), ⟨(some 63), (.p (.fieldAddr 1 (.t 1))), (some (62, true))⟩, ⟨(some 64), (.load false 1 (.t 63)), (some (62, true))⟩, ⟨(some 65), (.p (.bin 0 .neq (.t 64) (.c (i6' 0)))), (some (62, true))⟩, ⟨(some 66), (.pick (.t 62) (.t 65) (.c (bo' false))), none⟩, (mv' 67 66), ⟨(some 68), (.p (.fieldAddr 9 (.t 4))), (some (67, false))⟩, ⟨(some 69), (.load false 1 (.t 68)), (some (67, false))⟩, ⟨(some 70), (.p (.un .not (.t 69))), (some (67, false))⟩, ⟨(some 71), (.p (.mv (.t 70))), (some (67, false))⟩, ⟨(some 72), (.p (.fieldAddr 2 (.t 1))), (some (71, true))⟩, ⟨(some 73), (.load false 1 (.t 72)), (some (71, true))⟩, ⟨(some 74), (.p (.bin 0 .neq (.t 73) (.c (i6' 0)))), (some (71, true))⟩, ⟨(some 75), (.pick (.t 71) (.t 74) (.c (bo' false))), (some (67, false))⟩, ⟨(some 76), (.pick (.t 67) (.c (bo' true)) (.t 75)), none⟩, (mv' 77 76), ⟨(some 78), (.p (.fieldAddr 10 (.t 4))), (some (77, false))⟩, ⟨(some 79), (.load false 1 (.t 78)), (some (77, false))⟩, ⟨(some 80), (.p (.un .not (.t 79))), (some (77, false))⟩, ⟨(some 81), (.p (.mv (.t 80))), (some (77, false))⟩, ⟨(some 82), (.p (.fieldAddr 3 (.t 1))), (some (81, true))⟩, ⟨(some 83), (.load false 1 (.t 82)), (some (81, true))⟩, ⟨(some 84), (.p (.bin 0 .neq (.t 83) (.c (i6' 0)))), (some (81, true))⟩, ⟨(some 85), (.pick (.t 81) (.t 84) (.c (bo' false))), (some (77, false))⟩, ⟨(some 86), (.pick (.t 77) (.c (bo' true)) (.t 85)), none⟩, (mv' 87 86), ⟨(some 88), (.p (.fieldAddr 11 (.t 4))), (some (87, false))⟩, ⟨(some 89), (.load false 1 (.t 88)), (some (87, false))⟩, ⟨(some 90), (.p (.un .not (.t 89))), (some (87, false))⟩, ⟨(some 91), (.p (.mv (.t 90))), (some (87, false))⟩, ⟨(some 92), (.p (.fieldAddr 4 (.t 1))), (some (91, true))⟩, ⟨(some 93), (.load false 1 (.t 92)), (some (91, true))⟩, ⟨(some 94), (.p (.bin 0 .neq (.t 93) (.c (i6' 0)))), (some (91, true))⟩, ⟨(some 95), (.pick (.t 91) (.t 94) (.c (bo' false))), (some (87, false))⟩, ⟨(some 96), (.pick (.t 87) (.c (bo' true)) (.t 95)), none⟩, (mv' 97 96), ⟨(some 98), (.p (.fieldAddr 7 (.t 4))), (some (97, false))⟩, ⟨(some 99), (.load false 1 (.t 98)), (some (97, false))⟩, ⟨(some 100), (.p (.bin 0 .eql (.t 99) (.c (.int .u8 (.lit 0))))), (some (97, false))⟩, ⟨(some 101), (.p (.mv (.t 100))), (some (97, false))⟩, ⟨(some 102), (.p (.fieldAddr 5 (.t 1))), (some (101, true))⟩, ⟨(some 103), (.load false 1 (.t 102)), (some (101, true))⟩, ⟨(some 104), (.p (.bin 0 .neq (.t 103) (.c (u3' 0)))), (some (101, true))⟩, ⟨(some 105), (.pick (.t 101) (.t 104) (.c (bo' false))), (some (97, false))⟩, ⟨(some 106), (.pick (.t 97) (.c (bo' true)) (.t 105)), none⟩, (mv' 107 106), ⟨(some 108), (.p (.fieldAddr 13 (.t 4))), (some (107, false))⟩, ⟨(some 109), (.load false 1 (.t 108)), (some (107, false))⟩, ⟨(some 110), (.p (.un .not (.t 109))), (some (107, false))⟩, ⟨(some 111), (.p (.mv (.t 110))), (some (107, false))⟩, ⟨(some 112), (.p (.fieldAddr 6 (.t 1))), (some (111, true))⟩, ⟨(some 113), (.load false 1 (.t 112)), (some (111, true))⟩, ⟨(some 114), (.p (.mv (.t 113))), (some (111, true))⟩, ⟨(some 115), (.p (.fieldAddr 7 (.t 1))), (some (114, false))⟩, ⟨(some 116), (.load false 1 (.t 115)), (some (114, false))⟩, ⟨(some 117), (.pick (.t 114) (.c (bo' true)) (.t 116)), (some (111, true))⟩, ⟨(some 118), (.pick (.t 111) (.t 117) (.c (bo' false))), (some (107, false))⟩, ⟨(some 119), (.pick (.t 107) (.c (bo' true)) (.t 118)), none⟩])
 (.cond (.t 119) (.seq (.reg [⟨(some 2), (.p (.mv (.c (u3' 0)))), none⟩, ⟨(some 3), (.p (.mv (.c (i6' 104)))), none⟩])
 .ret)
 .skip))
 (.seq (.reg [(lg' 120 14 4), (lg' 121 8 1), ⟨(some 122), (.call (.f 30) [(.t 120), (.t 121)]), none⟩, (mv' 2 122), ⟨(some 3), (.p (.mv (.c (i6' 0)))), none⟩])
 .ret)))))))⟩
/- corral/mem.New -/
def af18 : AFunc := ⟨49, [.t 4, .t 5],
 (.seq (.reg [⟨(some 4), (.p (.mv (.c .nilPtr))), none⟩, ⟨(some 5), (.p (.mv (.c .nilIface))), none⟩])
 (.seq (.seq (.reg [(mv' 9 0), ⟨(some 10), (.p (.bin 0 .lss (.t 9) (.c (i6' 16)))), none⟩, (mv' 11 10), ⟨(some 12), (.p (.mv (.t 0))), (some (11, false))⟩, ⟨(some 13), (.p (.bin 0 .gtr (.t 12) (.c (i6' 65536)))), (some (11, false))⟩, ⟨(some 14), (.pick (.t 11) (.c (bo' true)) (.t 13)), none⟩, (mv' 15 14), ⟨(some 16), (.p (.mv (.t 0))), (some (15, false))⟩, ⟨(some 17), (.p (.bin 0 .rem (.t 16) (.c (i6' 16)))), (some (15, false))⟩, ⟨(some 18), (.p (.bin 0 .neq (.t 17) (.c (i6' 0)))), (some (15, false))⟩, ⟨(some 19), (.pick (.t 15) (.c (bo' true)) (.t 18)), none⟩])
 (.cond (.t 19) (.seq (.draw [(⟨(some 20), (.load false 1 (.g 0)), none⟩, []), (⟨(some 4), (.p (.mv (.c .nilPtr))), none⟩, []), ((mv' 5 20), [])])
 .ret)
 .skip))
 (.seq (.seq (.reg [(mv' 21 1), ⟨(some 22), (.p (.lenS (.t 21))), none⟩, (mv' 23 0), ⟨(some 24), (.p (.bin 0 .quo (.t 23) (.c (i6' 4)))), none⟩, ⟨(some 25), (.p (.bin 0 .gtr (.t 22) (.t 24))), none⟩])
 (.cond (.t 25) (.seq (.draw [(⟨(some 26), (.load false 1 (.g 1)), none⟩, []), (⟨(some 4), (.p (.mv (.c .nilPtr))), none⟩, []), ((mv' 5 26), [])])
 .ret)
 .skip))
 (.seq (.reg [(mv' 27 0), ⟨(some 28), (.mkSl 1 1 [(.int .u8 (.lit 0))] (.t 27) (.t 27)), none⟩, ⟨(some 29), (.p (.build [.nilSlice] [(0, 1, (.t 28))])), none⟩, ⟨(some 30), (.box 1 (.t 29)), none⟩, (mv' 6 30)])
 (.seq (.seq (.reg [(mv' 31 1), ⟨(some 32), (.p (.lenS (.t 31))), none⟩, ⟨(some 33), (.p (.mv (.c (i6' 0)))), none⟩])
 (.block 0 (.loop (.seq (.reg [⟨(some 34), (.p (.bin 0 .lss (.t 33) (.t 32))), none⟩])
 (.seq (.cond (.t 34) .skip
 (.exit 0))
 (.seq (.block 1 (.seq (.reg [(mv' 35 33), ⟨(some 36), (.p (.idxSl 1 (.t 31) (.t 33))), none⟩, (ld' 37 1 36), (mv' 7 35), (mv' 8 37)])
 (.reg [(mv' 38 6), (nc' 39 38), (fa' 40 0 39), (ld' 41 1 40), (mv' 42 7), ⟨(some 43), (.p (.bin 0 .mul (.c (i6' 4)) (.t 42))), none⟩, ⟨(some 44), (.p (.slice 1 (.t 41) (some (.t 43)) none)), none⟩, (mv' 45 8), ⟨(some 46), (.call (.f 31) [(.t 44), (.c (i6' 4)), (.t 45)]), none⟩])))
 (.reg [⟨(some 47), (.p (.bin 0 .add (.t 33) (.c (i6' 1)))), none⟩, (mv' 33 47)])))))))
 (.seq (.reg [(mv' 48 6), (mv' 4 48), ⟨(some 5), (.p (.mv (.c .nilIface))), none⟩])
 .ret))))))⟩
/- corral/hart.New -/
def af19 : AFunc := ⟨10, [.t 4],
 (.seq (.reg [⟨(some 4), (.p (.mv (.c .nilPtr))), none⟩])
 (.seq (.reg [(mv' 5 0), ⟨(some 6), (.call (.f 32) [(.t 5)]), none⟩, (mv' 7 1), ⟨(some 8), (.p (.build [(bo' false), (u3' 0), (u3' 0), (u3' 0), (u3' 0), (u3' 0), (u3' 0), (u3' 0), (u3' 0), (u3' 0), (u3' 0), (u3' 0), (u3' 0), (u3' 0), (u3' 0), (u3' 0), (u3' 0), (u3' 0), (u3' 0), (u3' 0), (u3' 0), (u3' 0), (u3' 0), (u3' 0), (u3' 0), (u3' 0), (u3' 0), (u3' 0), (u3' 0), (u3' 0), (u3' 0), (u3' 0), (u3' 0), (u3' 0), (u3' 0), (u3' 0), (u3' 0), (u3' 0), (u3' 0), (u3' 0), (u3' 0), (u3' 0), (u3' 0), (u3' 0), (i6' 0)] [(0, 11, (.t 6)), (44, 1, (.t 7))])), none⟩, ⟨(some 9), (.box 45 (.t 8)), none⟩, (mv' 4 9)])
 .ret))⟩
/- (*corral/seq.Machine).Step -/
def af20 : AFunc := ⟨63, [.cell 4 true 13, .t 5],
 (.seq (.reg [⟨(some 4), (.newC [(i6' 0), (u3' 0), (u3' 0), (u3' 0), (u3' 0), (u3' 0), .nilSlice, .nilSlice, (u3' 0), (u3' 0), (bo' false), (i6' 0), (i6' 0)]), none⟩, ⟨(some 5), (.p (.mv (.c (bo' false)))), none⟩])
 (.seq (.reg [(mv' 12 0), (mv' 13 1), ⟨(some 14), (.call (.f 24) [(.t 12), (.t 13)]), none⟩, (mv' 6 14)])
 (.seq (.seq (.reg [(mv' 15 6), ⟨(some 16), (.p (.nilEq 0 false (.t 15) (.c .nilPtr))), none⟩, (mv' 17 16), ⟨(some 18), (.p (.mv (.t 6))), (some (17, false))⟩, ⟨(some 19), (.p (.nilCheck (.t 18))), (some (17, false))⟩, ⟨(some 20), (.p (.fieldAddr 3 (.t 19))), (some (17, false))⟩, ⟨(some 21), (.load false 1 (.t 20)), (some (17, false))⟩, ⟨(some 22), (.pick (.t 17) (.c (bo' true)) (.t 21)), none⟩])
 (.cond (.t 22) (.seq (.reg [⟨(some 23), (.p (.build [(i6' 0), (u3' 0), (u3' 0), (u3' 0), (u3' 0), (u3' 0), .nilSlice, .nilSlice, (u3' 0), (u3' 0), (bo' false), (i6' 0), (i6' 0)] [])), none⟩, (so' 13 4 23), ⟨(some 5), (.p (.mv (.c (bo' false)))), none⟩])
 .ret)
 .skip))
 (.seq (.reg [⟨(some 7), (.newC [(i6' 0), (u3' 0), (u3' 0), (u3' 0), (u3' 0), (u3' 0), .nilSlice, .nilSlice, (u3' 0), (u3' 0), (bo' false), (i6' 0), (i6' 0)]), none⟩])
 (.seq (.seq (.reg [(mv' 25 6), (nc' 26 25), (fa' 27 0 26), (ld' 28 1 27), (nc' 29 28), (fa' 30 0 29), ⟨(some 31), (.call (.f 33) [(.t 30)]), none⟩, (mv' 24 31), (ex' 32 0 24), (ex' 33 1 24), (mv' 8 32), (mv' 9 33)])
 (.seq (.reg [(mv' 34 9)])
 (.cond (.t 34) (.reg [(mv' 35 6), (nc' 36 35), (fa' 37 0 36), (ld' 38 1 37), ⟨(some 39), (.call (.f 14) [(.t 38)]), none⟩, (mv' 40 8), ⟨(some 41), (.p (.build [(i6' 0), (u3' 0), (u3' 0), (u3' 0), (u3' 0), (u3' 0), .nilSlice, .nilSlice, (u3' 0), (u3' 0), (bo' false), (i6' 0), (i6' 0)] [(0, 1, (.c (i6' 3))), (1, 1, (.t 39)), (8, 1, (.t 40))])), none⟩, (so' 13 7 41)])
 (.reg [(mv' 42 0), (mv' 43 6), ⟨(some 44), (.call (.f 34) [(.t 42), (.t 43)]), none⟩, (so' 13 7 44)]))))
 (.seq (.reg [(mv' 45 0), ⟨(some 46), (.call (.f 35) [(.t 45)]), none⟩, (fa' 47 12 7), (so' 1 47 46)])
 (.seq (.draw [((mv' 49 6), []), ((nc' 50 49), []), ((fa' 51 0 50), []), ((ld' 52 1 51), []), ((lg' 53 13 7), []), (⟨(some 54), (.call (.f 36) [(.t 52), (.t 53)]), none⟩, []), ((mv' 48 54), []), ((ex' 55 0 48), []), ((ex' 56 1 48), []), (⟨(some 10), (.newC [(i6' 0), (u3' 0), (i6' 0), (u3' 0), (bo' false), (bo' false), (bo' false)]), none⟩, []), ((so' 7 10 55), []), ((mv' 11 56), [])])
 (.seq (.reg [(mv' 57 0), (mv' 58 6), (lg' 59 13 7), (lg' 60 7 10), ⟨(some 61), (.call (.f 37) [(.t 57), (.t 58), (.t 59), (.t 60)]), none⟩])
 (.seq (.reg [(lg' 62 13 7), (so' 13 4 62), ⟨(some 5), (.p (.mv (.c (bo' true)))), none⟩])
 .ret)))))))))⟩
/- (*corral/mem.Memory).Clone -/
def af21 : AFunc := ⟨10, [.t 2],
 (.seq (.reg [⟨(some 2), (.p (.mv (.c .nilPtr))), none⟩])
 (.seq (.reg [(mv' 3 0), (nc' 4 3), (fa' 5 0 4), (ld' 6 1 5), ⟨(some 7), (.call (.f 38) [(.t 6)]), none⟩, ⟨(some 8), (.p (.build [.nilSlice] [(0, 1, (.t 7))])), none⟩, ⟨(some 9), (.box 1 (.t 8)), none⟩, (mv' 2 9)])
 .ret))⟩
/- (*corral/mem.Memory).Has -/
def af22 : AFunc := ⟨22, [.t 6],
 (.seq (.reg [⟨(some 6), (.p (.mv (.c (bo' false)))), none⟩])
 (.seq (.reg [(mv' 7 1), (mv' 8 2), ⟨(some 9), (.call (.f 39) [(.t 7), (.t 8)]), none⟩, (mv' 10 9), ⟨(some 11), (.p (.mv (.t 1))), (some (10, true))⟩, ⟨(some 12), (.p (.conv .i64 (.t 11))), (some (10, true))⟩, ⟨(some 13), (.p (.mv (.t 0))), (some (10, true))⟩, ⟨(some 14), (.p (.nilCheck (.t 13))), (some (10, true))⟩, ⟨(some 15), (.p (.fieldAddr 0 (.t 14))), (some (10, true))⟩, ⟨(some 16), (.load false 1 (.t 15)), (some (10, true))⟩, ⟨(some 17), (.p (.lenS (.t 16))), (some (10, true))⟩, ⟨(some 18), (.p (.mv (.t 2))), (some (10, true))⟩, ⟨(some 19), (.p (.bin 0 .sub (.t 17) (.t 18))), (some (10, true))⟩, ⟨(some 20), (.p (.bin 0 .leq (.t 12) (.t 19))), (some (10, true))⟩, ⟨(some 21), (.pick (.t 10) (.t 20) (.c (bo' false))), none⟩, (mv' 6 21)])
 .ret))⟩
/- corral/mem.get -/
def af23 : AFunc := ⟨23, [.t 4],
 (.seq (.reg [⟨(some 4), (.p (.mv (.c (u3' 0)))), none⟩])
 (.seq (.reg [⟨(some 5), (.p (.mv (.c (u3' 0)))), none⟩])
 (.seq (.seq (.reg [(mv' 7 1), ⟨(some 8), (.p (.mv (.c (i6' 0)))), none⟩])
 (.block 0 (.loop (.seq (.reg [⟨(some 9), (.p (.bin 0 .lss (.t 8) (.t 7))), none⟩])
 (.seq (.cond (.t 9) .skip
 (.exit 0))
 (.seq (.block 1 (.seq (.reg [(mv' 10 8), (mv' 6 10)])
 (.reg [(mv' 11 5), (mv' 12 0), (mv' 13 6), ⟨(some 14), (.p (.idxSl 1 (.t 12) (.t 13))), none⟩, (ld' 15 1 14), ⟨(some 16), (.p (.conv .u32 (.t 15))), none⟩, (mv' 17 6), ⟨(some 18), (.p (.bin 0 .mul (.c (i6' 8)) (.t 17))), none⟩, ⟨(some 19), (.p (.bin 0 .shl (.t 16) (.t 18))), none⟩, ⟨(some 20), (.p (.bin 0 .or (.t 11) (.t 19))), none⟩, (mv' 5 20)])))
 (.reg [⟨(some 21), (.p (.bin 0 .add (.t 8) (.c (i6' 1)))), none⟩, (mv' 8 21)])))))))
 (.seq (.reg [(mv' 22 5), (mv' 4 22)])
 .ret))))⟩
/- (*corral/seq.Machine).there -/
def af24 : AFunc := ⟨23, [.t 4],
 (.seq (.reg [⟨(some 4), (.p (.mv (.c .nilPtr))), none⟩])
 (.seq (.seq (.reg [(mv' 5 1), ⟨(some 6), (.p (.bin 0 .lss (.t 5) (.c (i6' 0)))), none⟩, (mv' 7 6), ⟨(some 8), (.p (.mv (.t 1))), (some (7, false))⟩, ⟨(some 9), (.p (.mv (.t 0))), (some (7, false))⟩, ⟨(some 10), (.p (.nilCheck (.t 9))), (some (7, false))⟩, ⟨(some 11), (.p (.fieldAddr 0 (.t 10))), (some (7, false))⟩, ⟨(some 12), (.load false 1 (.t 11)), (some (7, false))⟩, ⟨(some 13), (.p (.lenS (.t 12))), (some (7, false))⟩, ⟨(some 14), (.p (.bin 0 .geq (.t 8) (.t 13))), (some (7, false))⟩, ⟨(some 15), (.pick (.t 7) (.c (bo' true)) (.t 14)), none⟩])
 (.cond (.t 15) (.seq (.reg [⟨(some 4), (.p (.mv (.c .nilPtr))), none⟩])
 .ret)
 .skip))
 (.seq (.reg [(mv' 16 0), (nc' 17 16), (fa' 18 0 17), (ld' 19 1 18), (mv' 20 1), ⟨(some 21), (.p (.idxSl 1 (.t 19) (.t 20))), none⟩, (ld' 22 1 21), (mv' 4 22)])
 .ret)))⟩
/- (*corral/hart.Hart).Clone -/
def af25 : AFunc := ⟨7, [.t 2],
 (.seq (.reg [⟨(some 2), (.p (.mv (.c .nilPtr))), none⟩])
 (.seq (.reg [(mv' 4 0), (nc' 5 4), (lg' 6 45 5), ⟨(some 3), (.newC [(bo' false), (u3' 0), (u3' 0), (u3' 0), (u3' 0), (u3' 0), (u3' 0), (u3' 0), (u3' 0), (u3' 0), (u3' 0), (u3' 0), (u3' 0), (u3' 0), (u3' 0), (u3' 0), (u3' 0), (u3' 0), (u3' 0), (u3' 0), (u3' 0), (u3' 0), (u3' 0), (u3' 0), (u3' 0), (u3' 0), (u3' 0), (u3' 0), (u3' 0), (u3' 0), (u3' 0), (u3' 0), (u3' 0), (u3' 0), (u3' 0), (u3' 0), (u3' 0), (u3' 0), (u3' 0), (u3' 0), (u3' 0), (u3' 0), (u3' 0), (u3' 0), (i6' 0)]), none⟩, (so' 45 3 6)])
 (.seq (.reg [(mv' 2 3)])
 .ret)))⟩
/- corral/corralref1.Of -/
def af27 : AFunc := ⟨32, [.cell 2 true 14, .t 3],
 (.seq (.reg [⟨(some 2), (.newC [(i6' 0), (.str ⟨#[]⟩), (u3' 0), (u3' 0), (u3' 0), (bo' false), (bo' false), (.int .u8 (.lit 0)), (bo' false), (bo' false), (bo' false), (bo' false), (u3' 0), (bo' false)]), none⟩, ⟨(some 3), (.p (.mv (.c (bo' false)))), none⟩])
 (.seq (.seq (.reg [(mv' 6 0), ⟨(some 7), (.p (.bin 0 .lss (.t 6) (.c (i6' 1)))), none⟩, (mv' 8 7), ⟨(some 9), (.p (.mv (.t 0))), (some (8, false))⟩, ⟨(some 10), (.p (.bin 0 .gtr (.t 9) (.c (i6' 69)))), (some (8, false))⟩, ⟨(some 11), (.pick (.t 8) (.c (bo' true)) (.t 10)), none⟩])
 (.cond (.t 11) (.seq (.reg [⟨(some 12), (.p (.build [(i6' 0), (.str ⟨#[]⟩), (u3' 0), (u3' 0), (u3' 0), (bo' false), (bo' false), (.int .u8 (.lit 0)), (bo' false), (bo' false), (bo' false), (bo' false), (u3' 0), (bo' false)] [])), none⟩, (so' 14 2 12), ⟨(some 3), (.p (.mv (.c (bo' false)))), none⟩])
 .ret)
 .skip))
 (.seq (.reg [⟨(some 13), (.call (.f 41) []), none⟩, (mv' 4 13)])
 (.seq (.seq (.reg [⟨(some 5), (.p (.mv (.c (i6' 0)))), none⟩])
 (.block 0 (.loop (.seq (.seq (.reg [(mv' 14 5), (mv' 15 4), ⟨(some 16), (.p (.lenS (.t 15))), none⟩, ⟨(some 17), (.p (.bin 0 .lss (.t 14) (.t 16))), none⟩])
 (.cond (.t 17) .skip
 (.exit 0)))
 (.seq (.block 1 (.seq (.reg [(mv' 20 4), (mv' 21 5), ⟨(some 22), (.p (.idxSl 14 (.t 20) (.t 21))), none⟩, (fa' 23 0 22), (ld' 24 1 23), (mv' 25 0), ⟨(some 26), (.p (.bin 0 .eql (.t 24) (.t 25))), none⟩])
 (.cond (.t 26) (.seq (.reg [(mv' 27 4), (mv' 28 5), ⟨(some 29), (.p (.idxSl 14 (.t 27) (.t 28))), none⟩, (lg' 30 14 29), (so' 14 2 30), ⟨(some 3), (.p (.mv (.c (bo' true)))), none⟩])
 .ret)
 .skip)))
 (.reg [(mv' 18 5), ⟨(some 19), (.p (.bin 0 .add (.t 18) (.c (i6' 1)))), none⟩, (mv' 5 19)]))))))
 (.seq (.reg [⟨(some 31), (.p (.build [(i6' 0), (.str ⟨#[]⟩), (u3' 0), (u3' 0), (u3' 0), (bo' false), (bo' false), (.int .u8 (.lit 0)), (bo' false), (bo' false), (bo' false), (bo' false), (u3' 0), (bo' false)] [])), none⟩, (so' 14 2 31), ⟨(some 3), (.p (.mv (.c (bo' false)))), none⟩])
 .ret)))))⟩
/- corral/corralref1.lay -/
def af28 : AFunc := ⟨34, [.t 4, .t 5],
 (.seq (.reg [⟨(some 4), (.p (.mv (.c (u3' 0)))), none⟩, ⟨(some 5), (.p (.mv (.c (bo' false)))), none⟩])
 (.seq (.seq (.reg [(mv' 6 0)])
 (.block 0 (.seq (.reg [⟨(some 8), (.p (.bin 0 .eql (.t 6) (.c (.int .u8 (.lit 0))))), none⟩, (mv' 7 8)])
 (.cond (.t 7) (.seq (.reg [(mv' 9 1), ⟨(some 10), (.p (.bin 0 .eql (.t 9) (.c (u3' 0)))), none⟩, ⟨(some 4), (.p (.mv (.c (u3' 0)))), none⟩, (mv' 5 10)])
 .ret)
 (.seq (.reg [⟨(some 12), (.p (.bin 0 .eql (.t 6) (.c (.int .u8 (.lit 90))))), none⟩, (mv' 11 12)])
 (.cond (.t 11) (.seq (.reg [(mv' 13 1), ⟨(some 14), (.p (.bin 0 .shl (.t 13) (.c (.int .u64 (.lit 20))))), none⟩, (mv' 15 1), ⟨(some 16), (.p (.bin 0 .lss (.t 15) (.c (u3' 32)))), none⟩, (mv' 4 14), (mv' 5 16)])
 .ret)
 (.seq (.reg [⟨(some 18), (.p (.bin 0 .eql (.t 6) (.c (.int .u8 (.lit 67))))), none⟩, (mv' 17 18)])
 (.cond (.t 17) (.seq (.reg [(mv' 19 1), ⟨(some 20), (.p (.bin 0 .shl (.t 19) (.c (.int .u64 (.lit 15))))), none⟩, (mv' 21 1), ⟨(some 22), (.p (.bin 0 .lss (.t 21) (.c (u3' 32)))), none⟩, (mv' 4 20), (mv' 5 22)])
 .ret)
 (.seq (.reg [⟨(some 24), (.p (.bin 0 .eql (.t 6) (.c (.int .u8 (.lit 70))))), none⟩, (mv' 23 24)])
 (.cond (.t 23) (.seq (.reg [(mv' 25 1), ⟨(some 26), (.p (.bin 0 .shl (.t 25) (.c (.int .u64 (.lit 20))))), none⟩, (mv' 27 1), ⟨(some 28), (.p (.bin 0 .lss (.t 27) (.c (u3' 256)))), none⟩, (mv' 4 26), (mv' 5 28)])
 .ret)
 .skip))))))))))
 (.seq (.reg [(mv' 29 0), (mv' 30 1), ⟨(some 31), (.call (.f 42) [(.t 29), (.t 30)]), none⟩, (ex' 32 0 31), (ex' 33 1 31), (mv' 4 32), (mv' 5 33)])
 .ret)))⟩
/- corral/corralref1.reg -/
def af29 : AFunc := ⟨9, [.t 2],
 (.seq (.reg [⟨(some 2), (.p (.mv (.c (bo' false)))), none⟩])
 (.seq (.reg [(mv' 3 0), ⟨(some 4), (.p (.bin 0 .geq (.t 3) (.c (i6' 0)))), none⟩, (mv' 5 4), ⟨(some 6), (.p (.mv (.t 0))), (some (5, true))⟩, ⟨(some 7), (.p (.bin 0 .leq (.t 6) (.c (i6' 31)))), (some (5, true))⟩, ⟨(some 8), (.pick (.t 5) (.t 7) (.c (bo' false))), none⟩, (mv' 2 8)])
 .ret))⟩
/- corral/corralref1.word -/
def af30 : AFunc := ⟨70, [.t 4],
 (.seq (.reg [⟨(some 2), (.box 14 (.t 0)), none⟩, ⟨(some 3), (.box 8 (.t 1)), none⟩, ⟨(some 4), (.p (.mv (.c (u3' 0)))), none⟩])
 (.seq (.seq (.reg [(fa' 8 12 2), (ld' 9 1 8), ⟨(some 10), (.p (.bin 0 .neq (.t 9) (.c (u3' 0)))), none⟩])
 (.cond (.t 10) (.seq (.reg [(fa' 11 12 2), (ld' 12 1 11), (mv' 4 12)])
 .ret)
 .skip))
 (.seq (.reg [(fa' 13 2 2), (ld' 14 1 13), (fa' 15 3 2), (ld' 16 1 15), ⟨(some 17), (.p (.bin 0 .shl (.t 16) (.c (.int .u64 (.lit 12))))), none⟩, ⟨(some 18), (.p (.bin 0 .or (.t 14) (.t 17))), none⟩, (mv' 5 18)])
 (.seq (.seq (.reg [(fa' 19 13 2), (ld' 20 1 19)])
 (.cond (.t 20) (.seq (.reg [(mv' 21 5), (fa' 22 4 2), (ld' 23 1 22), ⟨(some 24), (.p (.bin 0 .shl (.t 23) (.c (.int .u64 (.lit 27))))), none⟩, ⟨(some 25), (.p (.bin 0 .or (.t 21) (.t 24))), none⟩, (mv' 5 25)])
 (.seq (.seq (.reg [(fa' 26 6 3), (ld' 27 1 26)])
 (.cond (.t 27) (.reg [(mv' 28 5), ⟨(some 29), (.p (.bin 0 .or (.t 28) (.c (u3' 67108864)))), none⟩, (mv' 5 29)])
 .skip))
 (.seq (.reg [(fa' 30 7 3), (ld' 31 1 30)])
 (.cond (.t 31) (.reg [(mv' 32 5), ⟨(some 33), (.p (.bin 0 .or (.t 32) (.c (u3' 33554432)))), none⟩, (mv' 5 33)])
 .skip))))
 (.reg [(mv' 34 5), (fa' 35 4 2), (ld' 36 1 35), ⟨(some 37), (.p (.bin 0 .shl (.t 36) (.c (.int .u64 (.lit 25))))), none⟩, ⟨(some 38), (.p (.bin 0 .or (.t 34) (.t 37))), none⟩, (mv' 5 38)])))
 (.seq (.reg [(fa' 40 7 2), (ld' 41 1 40), (fa' 42 5 3), (ld' 43 1 42), ⟨(some 44), (.call (.f 28) [(.t 41), (.t 43)]), none⟩, (mv' 39 44), (ex' 45 0 39), (ex' 46 1 39), (mv' 6 45), (mv' 7 46)])
 (.seq (.reg [(mv' 47 5), (mv' 48 6), ⟨(some 49), (.p (.bin 0 .or (.t 47) (.t 48))), none⟩, (fa' 50 1 3), (ld' 51 1 50), ⟨(some 52), (.p (.conv .u32 (.t 51))), none⟩, ⟨(some 53), (.p (.bin 0 .shl (.t 52) (.c (.int .u64 (.lit 7))))), none⟩, ⟨(some 54), (.p (.bin 0 .or (.t 49) (.t 53))), none⟩, (fa' 55 2 3), (ld' 56 1 55), ⟨(some 57), (.p (.conv .u32 (.t 56))), none⟩, ⟨(some 58), (.p (.bin 0 .shl (.t 57) (.c (.int .u64 (.lit 15))))), none⟩, ⟨(some 59), (.p (.bin 0 .or (.t 54) (.t 58))), none⟩, (fa' 60 3 3), (ld' 61 1 60), ⟨(some 62), (.p (.conv .u32 (.t 61))), none⟩, ⟨(some 63), (.p (.bin 0 .shl (.t 62) (.c (.int .u64 (.lit 20))))), none⟩, ⟨(some 64), (.p (.bin 0 .or (.t 59) (.t 63))), none⟩, (fa' 65 4 3), (ld' 66 1 65), ⟨(some 67), (.p (.conv .u32 (.t 66))), none⟩, ⟨(some 68), (.p (.bin 0 .shl (.t 67) (.c (.int .u64 (.lit 20))))), none⟩, ⟨(some 69), (.p (.bin 0 .or (.t 64) (.t 68))), none⟩, (mv' 4 69)])
 .ret))))))⟩
/- corral/mem.put -/
def af31 : AFunc := ⟨20, [],
 (.seq (.reg [(mv' 7 1), ⟨(some 8), (.p (.mv (.c (i6' 0)))), none⟩])
 (.block 0 (.loop (.seq (.reg [⟨(some 9), (.p (.bin 0 .lss (.t 8) (.t 7))), none⟩])
 (.seq (.cond (.t 9) .skip
 (.exit 0))
 (.seq (.block 1 (.seq (.reg [(mv' 10 8), (mv' 6 10)])
 (.reg [(mv' 11 0), (mv' 12 6), (mv' 13 2), (mv' 14 6), ⟨(some 15), (.p (.bin 0 .mul (.c (i6' 8)) (.t 14))), none⟩, ⟨(some 16), (.p (.bin 0 .shr (.t 13) (.t 15))), none⟩, ⟨(some 17), (.p (.conv .u8 (.t 16))), none⟩, ⟨(some 18), (.p (.idxSl 1 (.t 11) (.t 12))), none⟩, (so' 1 18 17)])))
 (.reg [⟨(some 19), (.p (.bin 0 .add (.t 8) (.c (i6' 1)))), none⟩, (mv' 8 19)])))))))⟩
/- corral/csr.New -/
def af32 : AFunc := ⟨6, [.cell 2 true 11],
 (.seq (.reg [⟨(some 2), (.newC [(bo' false), (u3' 0), (u3' 0), (u3' 0), (u3' 0), (u3' 0), (u3' 0), (u3' 0), (u3' 0), (u3' 0), (u3' 0)]), none⟩])
 (.seq (.reg [(mv' 3 0), ⟨(some 4), (.p (.conv .u32 (.t 3))), none⟩, ⟨(some 5), (.p (.build [(bo' false), (u3' 0), (u3' 0), (u3' 0), (u3' 0), (u3' 0), (u3' 0), (u3' 0), (u3' 0), (u3' 0), (u3' 0)] [(10, 1, (.t 4))])), none⟩, (so' 11 2 5)])
 .ret))⟩
/- (*corral/csr.File).Pending -/
def af33 : AFunc := ⟨30, [.t 2, .t 3],
 (.seq (.reg [⟨(some 2), (.p (.mv (.c (u3' 0)))), none⟩, ⟨(some 3), (.p (.mv (.c (bo' false)))), none⟩])
 (.seq (.seq (.draw [((mv' 4 0), []), ((nc' 5 4), []), ((fa' 6 9 5), []), ((ld' 7 1 6), []), ((mv' 8 0), []), ((nc' 9 8), []), ((fa' 10 3 9), []), ((ld' 11 1 10), []), (⟨(some 12), (.p (.bin 0 .and (.t 7) (.t 11))), none⟩, []), (⟨(some 13), (.p (.bin 0 .and (.t 12) (.c (u3' 8)))), none⟩, []), (⟨(some 14), (.p (.bin 0 .eql (.t 13) (.c (u3' 0)))), none⟩, []), ((mv' 15 14), []), (⟨(some 16), (.p (.mv (.t 0))), (some (15, false))⟩, []), (⟨(some 17), (.p (.nilCheck (.t 16))), (some (15, false))⟩, []), (⟨(some 18), (.p (.fieldAddr 0 (.t 17))), (some (15, false))⟩, []), (⟨(some 19), (.load false 1 (.t 18)), (some (15, false))⟩, []), (⟨(some 20), (.p (.un .not (.t 19))), (some (15, false))⟩, []), (⟨(some 21), (.p (.mv (.t 20))), (some (15, false))⟩, []), (⟨(some 22), (.p (.mv (.t 0))), (some (21, true))⟩, []), (⟨(some 23), (.p (.nilCheck (.t 22))), (some (21, true))⟩, []), (⟨(some 24), (.p (.fieldAddr 2 (.t 23))), (some (21, true))⟩, []), (⟨(some 25), (.load false 1 (.t 24)), (some (21, true))⟩, []), (⟨(some 26), (.p (.bin 0 .and (.t 25) (.c (u3' 8)))), (some (21, true))⟩, []), (⟨(some 27), (.p (.bin 0 .eql (.t 26) (.c (u3' 0)))), (some (21, true))⟩, []), (⟨(some 28), (.pick (.t 21) (.t 27) (.c (bo' false))), (some (15, false))⟩, []), (⟨(some 29), (.pick (.t 15) (.c (bo' true)) (.t 28)), none⟩, [])])
 (.cond (.t 29) (.seq (.reg [⟨(some 2), (.p (.mv (.c (u3' 0)))), none⟩, ⟨(some 3), (.p (.mv (.c (bo' false)))), none⟩])
 .ret)
 .skip))
 (.seq (.reg [⟨(some 2), (.p (.mv (.c (u3' 2147483651)))), none⟩, ⟨(some 3), (.p (.mv (.c (bo' true)))), none⟩])
 .ret)))⟩
/- (*corral/seq.Machine).draft -/
def af34 : AFunc := ⟨134, [.cell 4 true 13],
 (.seq (.reg [⟨(some 4), (.newC [(i6' 0), (u3' 0), (u3' 0), (u3' 0), (u3' 0), (u3' 0), .nilSlice, .nilSlice, (u3' 0), (u3' 0), (bo' false), (i6' 0), (i6' 0)]), none⟩])
 (.seq (.reg [(mv' 13 1), (nc' 14 13), (fa' 15 0 14), (ld' 16 1 15), ⟨(some 17), (.call (.f 43) [(.t 16)]), none⟩, (mv' 5 17)])
 (.block 0 (.loop (.block 1 (.seq (.reg [(mv' 18 5), (mv' 19 1), (nc' 20 19), (fa' 21 0 20), (ld' 22 1 21), ⟨(some 23), (.call (.f 44) [(.t 18), (.t 22)]), none⟩, ⟨(some 6), (.newC [(i6' 0), (u3' 0), (u3' 0), (i6' 0), (bo' false), (i6' 0)]), none⟩, (so' 6 6 23)])
 (.seq (.reg [(fa' 24 0 6), (ld' 25 1 24)])
 (.block 2 (.seq (.reg [⟨(some 27), (.p (.bin 0 .eql (.t 25) (.c (i6' 0)))), none⟩, (mv' 26 27)])
 (.cond (.t 26) (.seq (.reg [(mv' 28 5), (nc' 29 28), (fa' 30 0 29), (lg' 31 13 30), (so' 13 4 31)])
 .ret)
 (.seq (.reg [⟨(some 33), (.p (.bin 0 .eql (.t 25) (.c (i6' 1)))), none⟩, (mv' 32 33)])
 (.cond (.t 32) (.seq (.draw [((mv' 35 0), []), ((nc' 36 35), []), ((fa' 37 1 36), []), ((ld' 38 1 37), []), ((fa' 39 1 6), []), ((ld' 40 1 39), []), ((fa' 41 3 6), []), ((ld' 42 1 41), []), (⟨(some 43), (.call (.f 11) [(.t 38), (.t 40), (.t 42)]), none⟩, []), ((mv' 34 43), []), ((ex' 44 0 34), []), ((ex' 45 1 34), []), ((mv' 7 44), []), ((mv' 8 45), [])])
 (.draw [((mv' 46 5), []), ((lg' 47 6 6), [6]), ((fa' 48 1 6), []), ((ld' 49 1 48), [6]), ((mv' 50 7), []), ((mv' 51 0), []), (⟨(some 52), (.call (.f 35) [(.t 51)]), none⟩, []), (⟨(some 53), (.p (.build [(u3' 0), (u3' 0), (u3' 0), (i6' 0), (bo' false)] [(0, 1, (.t 49)), (1, 1, (.t 50)), (3, 1, (.t 52))])), none⟩, []), (⟨(some 54), (.call (.f 45) [(.t 46), (.t 47), (.t 53)]), none⟩, [])]))
 (.seq (.reg [⟨(some 56), (.p (.bin 0 .eql (.t 25) (.c (i6' 2)))), none⟩, (mv' 55 56)])
 (.cond (.t 55) (.seq (.draw [((mv' 57 5), []), ((lg' 58 6 6), []), ((mv' 59 0), []), ((nc' 60 59), []), ((fa' 61 2 60), []), ((ld' 62 1 61), []), (⟨(some 63), (.call (.f 46) [(.t 57), (.t 58), (.t 62)]), none⟩, [])])
 (.reg [(mv' 64 0), (mv' 65 1), (fa' 66 1 6), (ld' 67 1 66), (fa' 68 3 6), (ld' 69 1 68), (fa' 70 2 6), (ld' 71 1 70), ⟨(some 72), (.call (.f 47) [(.t 64), (.t 65), (.t 67), (.t 69), (.t 71)]), none⟩]))
 (.seq (.reg [⟨(some 74), (.p (.bin 0 .eql (.t 25) (.c (i6' 3)))), none⟩, (mv' 73 74)])
 (.cond (.t 73) (.seq (.draw [((mv' 76 0), []), ((nc' 77 76), []), ((fa' 78 1 77), []), ((ld' 79 1 78), []), ((fa' 80 1 6), []), ((ld' 81 1 80), []), ((fa' 82 3 6), []), ((ld' 83 1 82), []), (⟨(some 84), (.call (.f 11) [(.t 79), (.t 81), (.t 83)]), none⟩, []), ((mv' 75 84), []), ((ex' 85 0 75), []), ((ex' 86 1 75), []), ((mv' 9 85), []), ((mv' 10 86), [])])
 (.reg [(mv' 87 5), (mv' 88 9), (mv' 89 0), ⟨(some 90), (.call (.f 35) [(.t 89)]), none⟩, ⟨(some 91), (.call (.f 48) [(.t 87), (.t 88), (.t 90)]), none⟩]))
 (.seq (.reg [⟨(some 93), (.p (.bin 0 .eql (.t 25) (.c (i6' 4)))), none⟩, (mv' 92 93)])
 (.cond (.t 92) (.reg [(mv' 94 5), (mv' 95 0), (fa' 96 1 6), (ld' 97 1 96), (fa' 98 3 6), (ld' 99 1 98), ⟨(some 100), (.call (.f 50) [(.t 95), (.t 97), (.t 99)]), none⟩, ⟨(some 101), (.call (.f 49) [(.t 94), (.t 100)]), none⟩])
 (.seq (.reg [⟨(some 103), (.p (.bin 0 .eql (.t 25) (.c (i6' 5)))), none⟩, (mv' 102 103)])
 (.cond (.t 102) (.draw [((mv' 104 5), []), ((mv' 105 1), []), ((nc' 106 105), []), ((fa' 107 1 106), []), ((ld' 108 1 107), []), ((mv' 109 108), []), (⟨(some 110), (.p (.mv (.t 1))), (some (109, true))⟩, []), (⟨(some 111), (.p (.nilCheck (.t 110))), (some (109, true))⟩, []), (⟨(some 112), (.p (.fieldAddr 2 (.t 111))), (some (109, true))⟩, []), (⟨(some 113), (.load false 1 (.t 112)), (some (109, true))⟩, []), (⟨(some 114), (.p (.fieldAddr 1 (.t 6))), (some (109, true))⟩, []), (⟨(some 115), (.load false 1 (.t 114)), (some (109, true))⟩, []), (⟨(some 116), (.p (.bin 0 .eql (.t 113) (.t 115))), (some (109, true))⟩, []), (⟨(some 117), (.pick (.t 109) (.t 116) (.c (bo' false))), none⟩, []), (⟨(some 118), (.call (.f 51) [(.t 104), (.t 117)]), none⟩, [])])
 (.seq (.reg [⟨(some 120), (.p (.bin 0 .eql (.t 25) (.c (i6' 6)))), none⟩, (mv' 119 120)])
 (.cond (.t 119) (.seq (.reg [(mv' 122 1), (nc' 123 122), (fa' 124 0 123), (ld' 125 1 124), (nc' 126 125), (fa' 127 0 126), ⟨(some 128), (.call (.f 52) [(.t 127), (.c (i6' 836))]), none⟩, (mv' 121 128), (ex' 129 0 121), (ex' 130 1 121), (mv' 11 129), (mv' 12 130)])
 (.reg [(mv' 131 5), (mv' 132 11), ⟨(some 133), (.call (.f 49) [(.t 131), (.t 132)]), none⟩]))
 .skip))))))))))))))))))))))⟩
/- (*corral/seq.Machine).tick -/
def af35 : AFunc := ⟨14, [.t 2],
 (.seq (.reg [⟨(some 2), (.p (.mv (.c (i6' 0)))), none⟩])
 (.seq (.reg [(mv' 3 0), (nc' 4 3), (fa' 5 2 4), (ld' 6 1 5), ⟨(some 7), (.p (.bin 0 .add (.t 6) (.c (i6' 1)))), none⟩, (nc' 8 3), (fa' 9 2 8), (so' 1 9 7)])
 (.seq (.reg [(mv' 10 0), (nc' 11 10), (fa' 12 2 11), (ld' 13 1 12), (mv' 2 13)])
 .ret)))⟩
/- (*corral/hart.Hart).Replay -/
def af36 : AFunc := ⟨37, [.cell 4 true 7, .t 5],
 (.seq (.reg [⟨(some 3), (.box 13 (.t 1)), none⟩, ⟨(some 4), (.newC [(i6' 0), (u3' 0), (i6' 0), (u3' 0), (bo' false), (bo' false), (bo' false)]), none⟩, ⟨(some 5), (.p (.mv (.c .nilIface))), none⟩])
 (.seq (.reg [(mv' 10 0), ⟨(some 11), (.call (.f 25) [(.t 10)]), none⟩, (mv' 6 11)])
 (.seq (.reg [(mv' 13 6), (lg' 14 13 3), ⟨(some 15), (.call (.f 53) [(.t 13), (.t 14)]), none⟩, (mv' 12 15), (ex' 16 0 12), (ex' 17 1 12), ⟨(some 7), (.newC [(i6' 0), (u3' 0), (u3' 0), (u3' 0), (u3' 0), (u3' 0), .nilSlice, .nilSlice, (u3' 0), (u3' 0), (bo' false), (i6' 0), (i6' 0)]), none⟩, (so' 13 7 16), (mv' 8 17)])
 (.seq (.seq (.reg [(mv' 18 8), ⟨(some 19), (.p (.un .not (.t 18))), none⟩, (mv' 20 19), ⟨(some 21), (.load true 13 (.t 7)), (some (20, false))⟩, ⟨(some 22), (.load true 13 (.t 3)), (some (20, false))⟩, ⟨(some 23), (.call (.f 54) [(.t 21), (.t 22)]), (some (20, false))⟩, ⟨(some 24), (.p (.un .not (.t 23))), (some (20, false))⟩, ⟨(some 25), (.pick (.t 20) (.c (bo' true)) (.t 24)), none⟩])
 (.cond (.t 25) (.seq (.draw [(⟨(some 26), (.p (.build [(i6' 0), (u3' 0), (i6' 0), (u3' 0), (bo' false), (bo' false), (bo' false)] [])), none⟩, []), (⟨(some 27), (.load false 1 (.g 2)), none⟩, [2]), ((so' 7 4 26), []), ((mv' 5 27), [])])
 .ret)
 .skip))
 (.seq (.reg [(mv' 28 6), (lg' 29 13 7), ⟨(some 30), (.call (.f 55) [(.t 28), (.t 29)]), none⟩, ⟨(some 9), (.newC [(i6' 0), (u3' 0), (i6' 0), (u3' 0), (bo' false), (bo' false), (bo' false)]), none⟩, (so' 7 9 30)])
 (.seq (.reg [(mv' 31 0), (mv' 32 6), (nc' 33 32), (lg' 34 45 33), (nc' 35 31), (so' 45 35 34)])
 (.seq (.reg [(lg' 36 7 9), (so' 7 4 36), ⟨(some 5), (.p (.mv (.c .nilIface))), none⟩])
 .ret)))))))⟩
/- (*corral/seq.Machine).effect -/
def af37 : AFunc := ⟨75, [],
 (.seq (.reg [⟨(some 6), (.box 13 (.t 2)), none⟩, ⟨(some 7), (.box 7 (.t 3)), none⟩])
 (.seq (.reg [(fa' 11 2 6), (ld' 12 1 11), ⟨(some 13), (.call (.f 56) [(.t 12)]), none⟩, (mv' 10 13), (ex' 14 0 10), (ex' 15 1 10), ⟨(some 8), (.newC [(i6' 0), (i6' 0), (i6' 0), (i6' 0), (i6' 0), (u3' 0), (bo' false), (bo' false)]), none⟩, (so' 8 8 14), (mv' 9 15)])
 (.seq (.seq (.reg [(fa' 16 0 6), (ld' 17 1 16), ⟨(some 18), (.p (.bin 0 .neq (.t 17) (.c (i6' 1)))), none⟩, (mv' 19 18), ⟨(some 20), (.p (.fieldAddr 0 (.t 8))), (some (19, false))⟩, ⟨(some 21), (.load false 1 (.t 20)), (some (19, false))⟩, ⟨(some 22), (.p (.bin 0 .eql (.t 21) (.c (i6' 42)))), (some (19, false))⟩, ⟨(some 23), (.pick (.t 19) (.c (bo' true)) (.t 22)), none⟩, (mv' 24 23), ⟨(some 25), (.p (.fieldAddr 0 (.t 8))), (some (24, false))⟩, ⟨(some 26), (.load false 1 (.t 25)), (some (24, false))⟩, ⟨(some 27), (.p (.bin 0 .eql (.t 26) (.c (i6' 60)))), (some (24, false))⟩, ⟨(some 28), (.pick (.t 24) (.c (bo' true)) (.t 27)), none⟩])
 (.cond (.t 28) (.reg [(mv' 29 1), (nc' 30 29), (fa' 31 1 30), ⟨none, (.store 1 (.t 31) (.c (bo' false))), none⟩])
 .skip))
 (.seq (.seq (.reg [(fa' 32 0 7), (ld' 33 1 32), ⟨(some 34), (.p (.bin 0 .eql (.t 33) (.c (i6' 2)))), none⟩, (mv' 35 34), ⟨(some 36), (.p (.fieldAddr 0 (.t 7))), (some (35, false))⟩, ⟨(some 37), (.load false 1 (.t 36)), (some (35, false))⟩, ⟨(some 38), (.p (.bin 0 .eql (.t 37) (.c (i6' 3)))), (some (35, false))⟩, ⟨(some 39), (.pick (.t 35) (.c (bo' true)) (.t 38)), none⟩])
 (.cond (.t 39) (.reg [(mv' 40 0), (mv' 41 1), (fa' 42 1 7), (ld' 43 1 42), (fa' 44 2 7), (ld' 45 1 44), (fa' 46 3 7), (ld' 47 1 46), ⟨(some 48), (.call (.f 47) [(.t 40), (.t 41), (.t 43), (.t 45), (.t 47)]), none⟩])
 .skip))
 (.seq (.seq (.reg [(fa' 49 0 6), (ld' 50 1 49), ⟨(some 51), (.p (.bin 0 .eql (.t 50) (.c (i6' 1)))), none⟩, (mv' 52 51), ⟨(some 53), (.p (.fieldAddr 0 (.t 8))), (some (52, true))⟩, ⟨(some 54), (.load false 1 (.t 53)), (some (52, true))⟩, ⟨(some 55), (.p (.bin 0 .eql (.t 54) (.c (i6' 59)))), (some (52, true))⟩, ⟨(some 56), (.pick (.t 52) (.t 55) (.c (bo' false))), none⟩])
 (.cond (.t 56) (.draw [((mv' 57 1), []), ((mv' 58 1), []), ((fa' 59 4 6), []), ((ld' 60 1 59), [6]), ((nc' 61 57), []), ((fa' 62 1 61), []), (⟨none, (.store 1 (.t 62) (.c (bo' true))), none⟩, []), ((nc' 63 58), []), ((fa' 64 2 63), []), ((so' 1 64 60), [])])
 .skip))
 (.reg [(mv' 65 1), (fa' 66 6 7), (ld' 67 1 66), (mv' 68 67), ⟨(some 69), (.p (.mv (.t 1))), (some (68, true))⟩, ⟨(some 70), (.call (.f 57) [(.t 69)]), (some (68, true))⟩, ⟨(some 71), (.p (.un .not (.t 70))), (some (68, true))⟩, ⟨(some 72), (.pick (.t 68) (.t 71) (.c (bo' false))), none⟩, (nc' 73 65), (fa' 74 3 73), (so' 1 74 72)]))))))⟩
/- slices.Clone[[]byte,byte] -/
def af38 : AFunc := ⟨8, [.t 2],
 (.seq (.reg [⟨(some 2), (.p (.mv (.c .nilSlice))), none⟩])
 (.seq (.seq (.reg [(mv' 3 0), ⟨(some 4), (.p (.nilEq 1 false (.t 3) (.c .nilSlice))), none⟩])
 (.cond (.t 4) (.seq (.reg [⟨(some 2), (.p (.mv (.c .nilSlice))), none⟩])
 .ret)
 .skip))
 (.seq (.reg [⟨(some 5), (.mkArr 1 0 [(.int .u8 (.lit 0))] []), none⟩, (mv' 6 0), ⟨(some 7), (.append 1 1 (.t 5) (.t 6)), none⟩, (mv' 2 7)])
 .ret)))⟩
/- corral/mem.fair -/
def af39 : AFunc := ⟨22, [.t 4],
 (.seq (.reg [⟨(some 4), (.p (.mv (.c (bo' false)))), none⟩])
 (.seq (.reg [(mv' 5 1), ⟨(some 6), (.p (.bin 0 .eql (.t 5) (.c (i6' 1)))), none⟩, (mv' 7 6), ⟨(some 8), (.p (.mv (.t 1))), (some (7, false))⟩, ⟨(some 9), (.p (.bin 0 .eql (.t 8) (.c (i6' 2)))), (some (7, false))⟩, ⟨(some 10), (.pick (.t 7) (.c (bo' true)) (.t 9)), none⟩, (mv' 11 10), ⟨(some 12), (.p (.mv (.t 1))), (some (11, false))⟩, ⟨(some 13), (.p (.bin 0 .eql (.t 12) (.c (i6' 4)))), (some (11, false))⟩, ⟨(some 14), (.pick (.t 11) (.c (bo' true)) (.t 13)), none⟩, (mv' 15 14), ⟨(some 16), (.p (.mv (.t 0))), (some (15, true))⟩, ⟨(some 17), (.p (.mv (.t 1))), (some (15, true))⟩, ⟨(some 18), (.p (.conv .u32 (.t 17))), (some (15, true))⟩, ⟨(some 19), (.p (.bin 0 .rem (.t 16) (.t 18))), (some (15, true))⟩, ⟨(some 20), (.p (.bin 0 .eql (.t 19) (.c (u3' 0)))), (some (15, true))⟩, ⟨(some 21), (.pick (.t 15) (.t 20) (.c (bo' false))), none⟩, (mv' 4 21)])
 .ret))⟩
/- corral/word.mask -/
def af40 : AFunc := ⟨9, [.t 2],
 (.seq (.reg [⟨(some 2), (.p (.mv (.c (u3' 0)))), none⟩])
 (.seq (.seq (.reg [(mv' 3 0), ⟨(some 4), (.p (.bin 0 .geq (.t 3) (.c (i6' 32)))), none⟩])
 (.cond (.t 4) (.seq (.reg [⟨(some 2), (.p (.mv (.c (u3' 4294967295)))), none⟩])
 .ret)
 .skip))
 (.seq (.reg [(mv' 5 0), ⟨(some 6), (.p (.mx (.t 5) (.c (i6' 0)))), none⟩, ⟨(some 7), (.p (.bin 0 .shl (.c (u3' 1)) (.t 6))), none⟩, ⟨(some 8), (.p (.bin 0 .sub (.t 7) (.c (u3' 1)))), none⟩, (mv' 2 8)])
 .ret)))⟩
/- corral/corralref1.Rows -/
def af41 : AFunc := ⟨71, [.t 0],
 (.seq (.reg [⟨(some 0), (.p (.mv (.c .nilSlice))), none⟩])
 (.seq (.reg [⟨(some 1), (.call (.f 58) [(.c (i6' 1)), (.c (.str ⟨#[108, 117, 105]⟩)), (.c (i6' 55)), (.c (.int .i64 (.lit (-1)))), (.c (.int .i64 (.lit (-1)))), (.c (.int .u8 (.lit 85))), (.c (.str ⟨#[100]⟩))]), none⟩, ⟨(some 2), (.call (.f 58) [(.c (i6' 2)), (.c (.str ⟨#[97, 117, 105, 112, 99]⟩)), (.c (i6' 23)), (.c (.int .i64 (.lit (-1)))), (.c (.int .i64 (.lit (-1)))), (.c (.int .u8 (.lit 85))), (.c (.str ⟨#[100]⟩))]), none⟩, ⟨(some 3), (.call (.f 58) [(.c (i6' 3)), (.c (.str ⟨#[106, 97, 108]⟩)), (.c (i6' 111)), (.c (.int .i64 (.lit (-1)))), (.c (.int .i64 (.lit (-1)))), (.c (.int .u8 (.lit 74))), (.c (.str ⟨#[100]⟩))]), none⟩, ⟨(some 4), (.call (.f 58) [(.c (i6' 4)), (.c (.str ⟨#[106, 97, 108, 114]⟩)), (.c (i6' 103)), (.c (i6' 0)), (.c (.int .i64 (.lit (-1)))), (.c (.int .u8 (.lit 73))), (.c (.str ⟨#[100, 97]⟩))]), none⟩, ⟨(some 5), (.call (.f 58) [(.c (i6' 5)), (.c (.str ⟨#[98, 101, 113]⟩)), (.c (i6' 99)), (.c (i6' 0)), (.c (.int .i64 (.lit (-1)))), (.c (.int .u8 (.lit 66))), (.c (.str ⟨#[97, 98]⟩))]), none⟩, ⟨(some 6), (.call (.f 58) [(.c (i6' 6)), (.c (.str ⟨#[98, 110, 101]⟩)), (.c (i6' 99)), (.c (i6' 1)), (.c (.int .i64 (.lit (-1)))), (.c (.int .u8 (.lit 66))), (.c (.str ⟨#[97, 98]⟩))]), none⟩, ⟨(some 7), (.call (.f 58) [(.c (i6' 7)), (.c (.str ⟨#[98, 108, 116]⟩)), (.c (i6' 99)), (.c (i6' 4)), (.c (.int .i64 (.lit (-1)))), (.c (.int .u8 (.lit 66))), (.c (.str ⟨#[97, 98]⟩))]), none⟩, ⟨(some 8), (.call (.f 58) [(.c (i6' 8)), (.c (.str ⟨#[98, 103, 101]⟩)), (.c (i6' 99)), (.c (i6' 5)), (.c (.int .i64 (.lit (-1)))), (.c (.int .u8 (.lit 66))), (.c (.str ⟨#[97, 98]⟩))]), none⟩, ⟨(some 9), (.call (.f 58) [(.c (i6' 9)), (.c (.str ⟨#[98, 108, 116, 117]⟩)), (.c (i6' 99)), (.c (i6' 6)), (.c (.int .i64 (.lit (-1)))), (.c (.int .u8 (.lit 66))), (.c (.str ⟨#[97, 98]⟩))]), none⟩, ⟨(some 10), (.call (.f 58) [(.c (i6' 10)), (.c (.str ⟨#[98, 103, 101, 117]⟩)), (.c (i6' 99)), (.c (i6' 7)), (.c (.int .i64 (.lit (-1)))), (.c (.int .u8 (.lit 66))), (.c (.str ⟨#[97, 98]⟩))]), none⟩, ⟨(some 11), (.call (.f 58) [(.c (i6' 11)), (.c (.str ⟨#[108, 98]⟩)), (.c (i6' 3)), (.c (i6' 0)), (.c (.int .i64 (.lit (-1)))), (.c (.int .u8 (.lit 73))), (.c (.str ⟨#[100, 97]⟩))]), none⟩, ⟨(some 12), (.call (.f 58) [(.c (i6' 12)), (.c (.str ⟨#[108, 104]⟩)), (.c (i6' 3)), (.c (i6' 1)), (.c (.int .i64 (.lit (-1)))), (.c (.int .u8 (.lit 73))), (.c (.str ⟨#[100, 97]⟩))]), none⟩, ⟨(some 13), (.call (.f 58) [(.c (i6' 13)), (.c (.str ⟨#[108, 119]⟩)), (.c (i6' 3)), (.c (i6' 2)), (.c (.int .i64 (.lit (-1)))), (.c (.int .u8 (.lit 73))), (.c (.str ⟨#[100, 97]⟩))]), none⟩, ⟨(some 14), (.call (.f 58) [(.c (i6' 14)), (.c (.str ⟨#[108, 98, 117]⟩)), (.c (i6' 3)), (.c (i6' 4)), (.c (.int .i64 (.lit (-1)))), (.c (.int .u8 (.lit 73))), (.c (.str ⟨#[100, 97]⟩))]), none⟩, ⟨(some 15), (.call (.f 58) [(.c (i6' 15)), (.c (.str ⟨#[108, 104, 117]⟩)), (.c (i6' 3)), (.c (i6' 5)), (.c (.int .i64 (.lit (-1)))), (.c (.int .u8 (.lit 73))), (.c (.str ⟨#[100, 97]⟩))]), none⟩, ⟨(some 16), (.call (.f 58) [(.c (i6' 16)), (.c (.str ⟨#[115, 98]⟩)), (.c (i6' 35)), (.c (i6' 0)), (.c (.int .i64 (.lit (-1)))), (.c (.int .u8 (.lit 83))), (.c (.str ⟨#[97, 98]⟩))]), none⟩, ⟨(some 17), (.call (.f 58) [(.c (i6' 17)), (.c (.str ⟨#[115, 104]⟩)), (.c (i6' 35)), (.c (i6' 1)), (.c (.int .i64 (.lit (-1)))), (.c (.int .u8 (.lit 83))), (.c (.str ⟨#[97, 98]⟩))]), none⟩, ⟨(some 18), (.call (.f 58) [(.c (i6' 18)), (.c (.str ⟨#[115, 119]⟩)), (.c (i6' 35)), (.c (i6' 2)), (.c (.int .i64 (.lit (-1)))), (.c (.int .u8 (.lit 83))), (.c (.str ⟨#[97, 98]⟩))]), none⟩, ⟨(some 19), (.call (.f 58) [(.c (i6' 19)), (.c (.str ⟨#[97, 100, 100, 105]⟩)), (.c (i6' 19)), (.c (i6' 0)), (.c (.int .i64 (.lit (-1)))), (.c (.int .u8 (.lit 73))), (.c (.str ⟨#[100, 97]⟩))]), none⟩, ⟨(some 20), (.call (.f 58) [(.c (i6' 20)), (.c (.str ⟨#[115, 108, 116, 105]⟩)), (.c (i6' 19)), (.c (i6' 2)), (.c (.int .i64 (.lit (-1)))), (.c (.int .u8 (.lit 73))), (.c (.str ⟨#[100, 97]⟩))]), none⟩, ⟨(some 21), (.call (.f 58) [(.c (i6' 21)), (.c (.str ⟨#[115, 108, 116, 105, 117]⟩)), (.c (i6' 19)), (.c (i6' 3)), (.c (.int .i64 (.lit (-1)))), (.c (.int .u8 (.lit 73))), (.c (.str ⟨#[100, 97]⟩))]), none⟩, ⟨(some 22), (.call (.f 58) [(.c (i6' 22)), (.c (.str ⟨#[120, 111, 114, 105]⟩)), (.c (i6' 19)), (.c (i6' 4)), (.c (.int .i64 (.lit (-1)))), (.c (.int .u8 (.lit 73))), (.c (.str ⟨#[100, 97]⟩))]), none⟩, ⟨(some 23), (.call (.f 58) [(.c (i6' 23)), (.c (.str ⟨#[111, 114, 105]⟩)), (.c (i6' 19)), (.c (i6' 6)), (.c (.int .i64 (.lit (-1)))), (.c (.int .u8 (.lit 73))), (.c (.str ⟨#[100, 97]⟩))]), none⟩, ⟨(some 24), (.call (.f 58) [(.c (i6' 24)), (.c (.str ⟨#[97, 110, 100, 105]⟩)), (.c (i6' 19)), (.c (i6' 7)), (.c (.int .i64 (.lit (-1)))), (.c (.int .u8 (.lit 73))), (.c (.str ⟨#[100, 97]⟩))]), none⟩, ⟨(some 25), (.call (.f 58) [(.c (i6' 25)), (.c (.str ⟨#[115, 108, 108, 105]⟩)), (.c (i6' 19)), (.c (i6' 1)), (.c (i6' 0)), (.c (.int .u8 (.lit 90))), (.c (.str ⟨#[100, 97]⟩))]), none⟩, ⟨(some 26), (.call (.f 58) [(.c (i6' 26)), (.c (.str ⟨#[115, 114, 108, 105]⟩)), (.c (i6' 19)), (.c (i6' 5)), (.c (i6' 0)), (.c (.int .u8 (.lit 90))), (.c (.str ⟨#[100, 97]⟩))]), none⟩, ⟨(some 27), (.call (.f 58) [(.c (i6' 27)), (.c (.str ⟨#[115, 114, 97, 105]⟩)), (.c (i6' 19)), (.c (i6' 5)), (.c (i6' 32)), (.c (.int .u8 (.lit 90))), (.c (.str ⟨#[100, 97]⟩))]), none⟩, ⟨(some 28), (.call (.f 58) [(.c (i6' 28)), (.c (.str ⟨#[97, 100, 100]⟩)), (.c (i6' 51)), (.c (i6' 0)), (.c (i6' 0)), (.c (.int .u8 (.lit 0))), (.c (.str ⟨#[100, 97, 98]⟩))]), none⟩, ⟨(some 29), (.call (.f 58) [(.c (i6' 29)), (.c (.str ⟨#[115, 117, 98]⟩)), (.c (i6' 51)), (.c (i6' 0)), (.c (i6' 32)), (.c (.int .u8 (.lit 0))), (.c (.str ⟨#[100, 97, 98]⟩))]), none⟩, ⟨(some 30), (.call (.f 58) [(.c (i6' 30)), (.c (.str ⟨#[115, 108, 108]⟩)), (.c (i6' 51)), (.c (i6' 1)), (.c (i6' 0)), (.c (.int .u8 (.lit 0))), (.c (.str ⟨#[100, 97, 98]⟩))]), none⟩, ⟨(some 31), (.call (.f 58) [(.c (i6' 31)), (.c (.str ⟨#[115, 108, 116]⟩)), (.c (i6' 51)), (.c (i6' 2)), (.c (i6' 0)), (.c (.int .u8 (.lit 0))), (.c (.str ⟨#[100, 97, 98]⟩))]), none⟩, ⟨(some 32), (.call (.f 58) [(.c (i6' 32)), (.c (.str ⟨#[115, 108, 116, 117]⟩)), (.c (i6' 51)), (.c (i6' 3)), (.c (i6' 0)), (.c (.int .u8 (.lit 0))), (.c (.str ⟨#[100, 97, 98]⟩))]), none⟩, ⟨(some 33), (.call (.f 58) [(.c (i6' 33)), (.c (.str ⟨#[120, 111, 114]⟩)), (.c (i6' 51)), (.c (i6' 4)), (.c (i6' 0)), (.c (.int .u8 (.lit 0))), (.c (.str ⟨#[100, 97, 98]⟩))]), none⟩, ⟨(some 34), (.call (.f 58) [(.c (i6' 34)), (.c (.str ⟨#[115, 114, 108]⟩)), (.c (i6' 51)), (.c (i6' 5)), (.c (i6' 0)), (.c (.int .u8 (.lit 0))), (.c (.str ⟨#[100, 97, 98]⟩))]), none⟩, ⟨(some 35), (.call (.f 58) [(.c (i6' 35)), (.c (.str ⟨#[115, 114, 97]⟩)), (.c (i6' 51)), (.c (i6' 5)), (.c (i6' 32)), (.c (.int .u8 (.lit 0))), (.c (.str ⟨#[100, 97, 98]⟩))]), none⟩, ⟨(some 36), (.call (.f 58) [(.c (i6' 36)), (.c (.str ⟨#[111, 114]⟩)), (.c (i6' 51)), (.c (i6' 6)), (.c (i6' 0)), (.c (.int .u8 (.lit 0))), (.c (.str ⟨#[100, 97, 98]⟩))]), none⟩, ⟨(some 37), (.call (.f 58) [(.c (i6' 37)), (.c (.str ⟨#[97, 110, 100]⟩)), (.c (i6' 51)), (.c (i6' 7)), (.c (i6' 0)), (.c (.int .u8 (.lit 0))), (.c (.str ⟨#[100, 97, 98]⟩))]), none⟩, ⟨(some 38), (.call (.f 58) [(.c (i6' 38)), (.c (.str ⟨#[102, 101, 110, 99, 101]⟩)), (.c (i6' 15)), (.c (i6' 0)), (.c (.int .i64 (.lit (-1)))), (.c (.int .u8 (.lit 70))), (.c (.str ⟨#[]⟩))]), none⟩, ⟨(some 39), (.call (.f 59) [(.c (i6' 39)), (.c (.str ⟨#[102, 101, 110, 99, 101, 46, 105]⟩)), (.c (u3' 4111))]), none⟩, ⟨(some 40), (.call (.f 59) [(.c (i6' 40)), (.c (.str ⟨#[101, 99, 97, 108, 108]⟩)), (.c (u3' 115))]), none⟩, ⟨(some 41), (.call (.f 59) [(.c (i6' 41)), (.c (.str ⟨#[101, 98, 114, 101, 97, 107]⟩)), (.c (u3' 1048691))]), none⟩, ⟨(some 42), (.call (.f 59) [(.c (i6' 42)), (.c (.str ⟨#[109, 114, 101, 116]⟩)), (.c (u3' 807403635))]), none⟩, ⟨(some 43), (.call (.f 59) [(.c (i6' 43)), (.c (.str ⟨#[119, 102, 105]⟩)), (.c (u3' 273678451))]), none⟩, ⟨(some 44), (.call (.f 58) [(.c (i6' 44)), (.c (.str ⟨#[115, 102, 101, 110, 99, 101, 46, 118, 109, 97]⟩)), (.c (i6' 115)), (.c (i6' 0)), (.c (i6' 9)), (.c (.int .u8 (.lit 0))), (.c (.str ⟨#[97, 98]⟩))]), none⟩, ⟨(some 45), (.call (.f 58) [(.c (i6' 45)), (.c (.str ⟨#[99, 115, 114, 114, 119]⟩)), (.c (i6' 115)), (.c (i6' 1)), (.c (.int .i64 (.lit (-1)))), (.c (.int .u8 (.lit 0))), (.c (.str ⟨#[100, 97, 99]⟩))]), none⟩, ⟨(some 46), (.call (.f 58) [(.c (i6' 46)), (.c (.str ⟨#[99, 115, 114, 114, 115]⟩)), (.c (i6' 115)), (.c (i6' 2)), (.c (.int .i64 (.lit (-1)))), (.c (.int .u8 (.lit 0))), (.c (.str ⟨#[100, 97, 99]⟩))]), none⟩, ⟨(some 47), (.call (.f 58) [(.c (i6' 47)), (.c (.str ⟨#[99, 115, 114, 114, 99]⟩)), (.c (i6' 115)), (.c (i6' 3)), (.c (.int .i64 (.lit (-1)))), (.c (.int .u8 (.lit 0))), (.c (.str ⟨#[100, 97, 99]⟩))]), none⟩, ⟨(some 48), (.call (.f 58) [(.c (i6' 48)), (.c (.str ⟨#[99, 115, 114, 114, 119, 105]⟩)), (.c (i6' 115)), (.c (i6' 5)), (.c (.int .i64 (.lit (-1)))), (.c (.int .u8 (.lit 67))), (.c (.str ⟨#[100, 99]⟩))]), none⟩, ⟨(some 49), (.call (.f 58) [(.c (i6' 49)), (.c (.str ⟨#[99, 115, 114, 114, 115, 105]⟩)), (.c (i6' 115)), (.c (i6' 6)), (.c (.int .i64 (.lit (-1)))), (.c (.int .u8 (.lit 67))), (.c (.str ⟨#[100, 99]⟩))]), none⟩, ⟨(some 50), (.call (.f 58) [(.c (i6' 50)), (.c (.str ⟨#[99, 115, 114, 114, 99, 105]⟩)), (.c (i6' 115)), (.c (i6' 7)), (.c (.int .i64 (.lit (-1)))), (.c (.int .u8 (.lit 67))), (.c (.str ⟨#[100, 99]⟩))]), none⟩, ⟨(some 51), (.call (.f 58) [(.c (i6' 51)), (.c (.str ⟨#[109, 117, 108]⟩)), (.c (i6' 51)), (.c (i6' 0)), (.c (i6' 1)), (.c (.int .u8 (.lit 0))), (.c (.str ⟨#[100, 97, 98]⟩))]), none⟩, ⟨(some 52), (.call (.f 58) [(.c (i6' 52)), (.c (.str ⟨#[109, 117, 108, 104]⟩)), (.c (i6' 51)), (.c (i6' 1)), (.c (i6' 1)), (.c (.int .u8 (.lit 0))), (.c (.str ⟨#[100, 97, 98]⟩))]), none⟩, ⟨(some 53), (.call (.f 58) [(.c (i6' 53)), (.c (.str ⟨#[109, 117, 108, 104, 115, 117]⟩)), (.c (i6' 51)), (.c (i6' 2)), (.c (i6' 1)), (.c (.int .u8 (.lit 0))), (.c (.str ⟨#[100, 97, 98]⟩))]), none⟩, ⟨(some 54), (.call (.f 58) [(.c (i6' 54)), (.c (.str ⟨#[109, 117, 108, 104, 117]⟩)), (.c (i6' 51)), (.c (i6' 3)), (.c (i6' 1)), (.c (.int .u8 (.lit 0))), (.c (.str ⟨#[100, 97, 98]⟩))]), none⟩, ⟨(some 55), (.call (.f 58) [(.c (i6' 55)), (.c (.str ⟨#[100, 105, 118]⟩)), (.c (i6' 51)), (.c (i6' 4)), (.c (i6' 1)), (.c (.int .u8 (.lit 0))), (.c (.str ⟨#[100, 97, 98]⟩))]), none⟩, ⟨(some 56), (.call (.f 58) [(.c (i6' 56)), (.c (.str ⟨#[100, 105, 118, 117]⟩)), (.c (i6' 51)), (.c (i6' 5)), (.c (i6' 1)), (.c (.int .u8 (.lit 0))), (.c (.str ⟨#[100, 97, 98]⟩))]), none⟩, ⟨(some 57), (.call (.f 58) [(.c (i6' 57)), (.c (.str ⟨#[114, 101, 109]⟩)), (.c (i6' 51)), (.c (i6' 6)), (.c (i6' 1)), (.c (.int .u8 (.lit 0))), (.c (.str ⟨#[100, 97, 98]⟩))]), none⟩, ⟨(some 58), (.call (.f 58) [(.c (i6' 58)), (.c (.str ⟨#[114, 101, 109, 117]⟩)), (.c (i6' 51)), (.c (i6' 7)), (.c (i6' 1)), (.c (.int .u8 (.lit 0))), (.c (.str ⟨#[100, 97, 98]⟩))]), none⟩, ⟨(some 59), (.call (.f 58) [(.c (i6' 59)), (.c (.str ⟨#[108, 114, 46, 119]⟩)), (.c (i6' 47)), (.c (i6' 2)), (.c (i6' 2)), (.c (.int .u8 (.lit 0))), (.c (.str ⟨#[100, 97, 112]⟩))]), none⟩, ⟨(some 60), (.call (.f 58) [(.c (i6' 60)), (.c (.str ⟨#[115, 99, 46, 119]⟩)), (.c (i6' 47)), (.c (i6' 2)), (.c (i6' 3)), (.c (.int .u8 (.lit 0))), (.c (.str ⟨#[100, 97, 98, 112]⟩))]), none⟩, ⟨(some 61), (.call (.f 58) [(.c (i6' 61)), (.c (.str ⟨#[97, 109, 111, 115, 119, 97, 112, 46, 119]⟩)), (.c (i6' 47)), (.c (i6' 2)), (.c (i6' 1)), (.c (.int .u8 (.lit 0))), (.c (.str ⟨#[100, 97, 98, 112]⟩))]), none⟩, ⟨(some 62), (.call (.f 58) [(.c (i6' 62)), (.c (.str ⟨#[97, 109, 111, 97, 100, 100, 46, 119]⟩)), (.c (i6' 47)), (.c (i6' 2)), (.c (i6' 0)), (.c (.int .u8 (.lit 0))), (.c (.str ⟨#[100, 97, 98, 112]⟩))]), none⟩, ⟨(some 63), (.call (.f 58) [(.c (i6' 63)), (.c (.str ⟨#[97, 109, 111, 120, 111, 114, 46, 119]⟩)), (.c (i6' 47)), (.c (i6' 2)), (.c (i6' 4)), (.c (.int .u8 (.lit 0))), (.c (.str ⟨#[100, 97, 98, 112]⟩))]), none⟩, ⟨(some 64), (.call (.f 58) [(.c (i6' 64)), (.c (.str ⟨#[97, 109, 111, 97, 110, 100, 46, 119]⟩)), (.c (i6' 47)), (.c (i6' 2)), (.c (i6' 12)), (.c (.int .u8 (.lit 0))), (.c (.str ⟨#[100, 97, 98, 112]⟩))]), none⟩, ⟨(some 65), (.call (.f 58) [(.c (i6' 65)), (.c (.str ⟨#[97, 109, 111, 111, 114, 46, 119]⟩)), (.c (i6' 47)), (.c (i6' 2)), (.c (i6' 8)), (.c (.int .u8 (.lit 0))), (.c (.str ⟨#[100, 97, 98, 112]⟩))]), none⟩, ⟨(some 66), (.call (.f 58) [(.c (i6' 66)), (.c (.str ⟨#[97, 109, 111, 109, 105, 110, 46, 119]⟩)), (.c (i6' 47)), (.c (i6' 2)), (.c (i6' 16)), (.c (.int .u8 (.lit 0))), (.c (.str ⟨#[100, 97, 98, 112]⟩))]), none⟩, ⟨(some 67), (.call (.f 58) [(.c (i6' 67)), (.c (.str ⟨#[97, 109, 111, 109, 97, 120, 46, 119]⟩)), (.c (i6' 47)), (.c (i6' 2)), (.c (i6' 20)), (.c (.int .u8 (.lit 0))), (.c (.str ⟨#[100, 97, 98, 112]⟩))]), none⟩, ⟨(some 68), (.call (.f 58) [(.c (i6' 68)), (.c (.str ⟨#[97, 109, 111, 109, 105, 110, 117, 46, 119]⟩)), (.c (i6' 47)), (.c (i6' 2)), (.c (i6' 24)), (.c (.int .u8 (.lit 0))), (.c (.str ⟨#[100, 97, 98, 112]⟩))]), none⟩, ⟨(some 69), (.call (.f 58) [(.c (i6' 69)), (.c (.str ⟨#[97, 109, 111, 109, 97, 120, 117, 46, 119]⟩)), (.c (i6' 47)), (.c (i6' 2)), (.c (i6' 28)), (.c (.int .u8 (.lit 0))), (.c (.str ⟨#[100, 97, 98, 112]⟩))]), none⟩, ⟨(some 70), (.mkArr 14 69 [(i6' 0), (.str ⟨#[]⟩), (u3' 0), (u3' 0), (u3' 0), (bo' false), (bo' false), (.int .u8 (.lit 0)), (bo' false), (bo' false), (bo' false), (bo' false), (u3' 0), (bo' false)] [(0, 14, (.t 1)), (14, 14, (.t 2)), (28, 14, (.t 3)), (42, 14, (.t 4)), (56, 14, (.t 5)), (70, 14, (.t 6)), (84, 14, (.t 7)), (98, 14, (.t 8)), (112, 14, (.t 9)), (126, 14, (.t 10)), (140, 14, (.t 11)), (154, 14, (.t 12)), (168, 14, (.t 13)), (182, 14, (.t 14)), (196, 14, (.t 15)), (210, 14, (.t 16)), (224, 14, (.t 17)), (238, 14, (.t 18)), (252, 14, (.t 19)), (266, 14, (.t 20)), (280, 14, (.t 21)), (294, 14, (.t 22)), (308, 14, (.t 23)), (322, 14, (.t 24)), (336, 14, (.t 25)), (350, 14, (.t 26)), (364, 14, (.t 27)), (378, 14, (.t 28)), (392, 14, (.t 29)), (406, 14, (.t 30)), (420, 14, (.t 31)), (434, 14, (.t 32)), (448, 14, (.t 33)), (462, 14, (.t 34)), (476, 14, (.t 35)), (490, 14, (.t 36)), (504, 14, (.t 37)), (518, 14, (.t 38)), (532, 14, (.t 39)), (546, 14, (.t 40)), (560, 14, (.t 41)), (574, 14, (.t 42)), (588, 14, (.t 43)), (602, 14, (.t 44)), (616, 14, (.t 45)), (630, 14, (.t 46)), (644, 14, (.t 47)), (658, 14, (.t 48)), (672, 14, (.t 49)), (686, 14, (.t 50)), (700, 14, (.t 51)), (714, 14, (.t 52)), (728, 14, (.t 53)), (742, 14, (.t 54)), (756, 14, (.t 55)), (770, 14, (.t 56)), (784, 14, (.t 57)), (798, 14, (.t 58)), (812, 14, (.t 59)), (826, 14, (.t 60)), (840, 14, (.t 61)), (854, 14, (.t 62)), (868, 14, (.t 63)), (882, 14, (.t 64)), (896, 14, (.t 65)), (910, 14, (.t 66)), (924, 14, (.t 67)), (938, 14, (.t 68)), (952, 14, (.t 69))]), none⟩, (mv' 0 70)])
 .ret))⟩
/- corral/corralref1.Lay -/
def af42 : AFunc := ⟨65, [.t 4, .t 5],
 (.seq (.reg [⟨(some 4), (.p (.mv (.c (u3' 0)))), none⟩, ⟨(some 5), (.p (.mv (.c (bo' false)))), none⟩])
 (.seq (.reg [⟨(some 6), (.p (.mv (.c (u3' 0)))), none⟩])
 (.seq (.seq (.reg [(mv' 7 0)])
 (.block 0 (.seq (.reg [⟨(some 9), (.p (.bin 0 .eql (.t 7) (.c (.int .u8 (.lit 73))))), none⟩, (mv' 8 9)])
 (.cond (.t 8) (.reg [(mv' 10 1), ⟨(some 11), (.call (.f 60) [(.t 10), (.c (i6' 20)), (.c (i6' 12))]), none⟩, (mv' 6 11)])
 (.seq (.reg [⟨(some 13), (.p (.bin 0 .eql (.t 7) (.c (.int .u8 (.lit 83))))), none⟩, (mv' 12 13)])
 (.cond (.t 12) (.reg [(mv' 14 1), ⟨(some 15), (.p (.bin 0 .shr (.t 14) (.c (.int .u64 (.lit 5))))), none⟩, ⟨(some 16), (.call (.f 60) [(.t 15), (.c (i6' 25)), (.c (i6' 7))]), none⟩, (mv' 17 1), ⟨(some 18), (.call (.f 60) [(.t 17), (.c (i6' 7)), (.c (i6' 5))]), none⟩, ⟨(some 19), (.p (.bin 0 .or (.t 16) (.t 18))), none⟩, (mv' 6 19)])
 (.seq (.reg [⟨(some 21), (.p (.bin 0 .eql (.t 7) (.c (.int .u8 (.lit 66))))), none⟩, (mv' 20 21)])
 (.cond (.t 20) (.reg [(mv' 22 1), ⟨(some 23), (.p (.bin 0 .shr (.t 22) (.c (.int .u64 (.lit 12))))), none⟩, ⟨(some 24), (.call (.f 60) [(.t 23), (.c (i6' 31)), (.c (i6' 1))]), none⟩, (mv' 25 1), ⟨(some 26), (.p (.bin 0 .shr (.t 25) (.c (.int .u64 (.lit 11))))), none⟩, ⟨(some 27), (.call (.f 60) [(.t 26), (.c (i6' 7)), (.c (i6' 1))]), none⟩, ⟨(some 28), (.p (.bin 0 .or (.t 24) (.t 27))), none⟩, (mv' 29 1), ⟨(some 30), (.p (.bin 0 .shr (.t 29) (.c (.int .u64 (.lit 5))))), none⟩, ⟨(some 31), (.call (.f 60) [(.t 30), (.c (i6' 25)), (.c (i6' 6))]), none⟩, ⟨(some 32), (.p (.bin 0 .or (.t 28) (.t 31))), none⟩, (mv' 33 1), ⟨(some 34), (.p (.bin 0 .shr (.t 33) (.c (.int .u64 (.lit 1))))), none⟩, ⟨(some 35), (.call (.f 60) [(.t 34), (.c (i6' 8)), (.c (i6' 4))]), none⟩, ⟨(some 36), (.p (.bin 0 .or (.t 32) (.t 35))), none⟩, (mv' 6 36)])
 (.seq (.reg [⟨(some 38), (.p (.bin 0 .eql (.t 7) (.c (.int .u8 (.lit 85))))), none⟩, (mv' 37 38)])
 (.cond (.t 37) (.reg [(mv' 39 1), ⟨(some 40), (.p (.bin 0 .shr (.t 39) (.c (.int .u64 (.lit 12))))), none⟩, ⟨(some 41), (.call (.f 60) [(.t 40), (.c (i6' 12)), (.c (i6' 20))]), none⟩, (mv' 6 41)])
 (.seq (.reg [⟨(some 43), (.p (.bin 0 .eql (.t 7) (.c (.int .u8 (.lit 74))))), none⟩, (mv' 42 43)])
 (.cond (.t 42) (.reg [(mv' 44 1), ⟨(some 45), (.p (.bin 0 .shr (.t 44) (.c (.int .u64 (.lit 20))))), none⟩, ⟨(some 46), (.call (.f 60) [(.t 45), (.c (i6' 31)), (.c (i6' 1))]), none⟩, (mv' 47 1), ⟨(some 48), (.p (.bin 0 .shr (.t 47) (.c (.int .u64 (.lit 12))))), none⟩, ⟨(some 49), (.call (.f 60) [(.t 48), (.c (i6' 12)), (.c (i6' 8))]), none⟩, ⟨(some 50), (.p (.bin 0 .or (.t 46) (.t 49))), none⟩, (mv' 51 1), ⟨(some 52), (.p (.bin 0 .shr (.t 51) (.c (.int .u64 (.lit 11))))), none⟩, ⟨(some 53), (.call (.f 60) [(.t 52), (.c (i6' 20)), (.c (i6' 1))]), none⟩, ⟨(some 54), (.p (.bin 0 .or (.t 50) (.t 53))), none⟩, (mv' 55 1), ⟨(some 56), (.p (.bin 0 .shr (.t 55) (.c (.int .u64 (.lit 1))))), none⟩, ⟨(some 57), (.call (.f 60) [(.t 56), (.c (i6' 21)), (.c (i6' 10))]), none⟩, ⟨(some 58), (.p (.bin 0 .or (.t 54) (.t 57))), none⟩, (mv' 6 58)])
 (.seq (.reg [⟨(some 4), (.p (.mv (.c (u3' 0)))), none⟩, ⟨(some 5), (.p (.mv (.c (bo' false)))), none⟩])
 .ret)))))))))))))
 (.seq (.seq (.reg [(mv' 59 0), (mv' 60 6), ⟨(some 61), (.call (.f 61) [(.t 59), (.t 60)]), none⟩, (mv' 62 1), ⟨(some 63), (.p (.bin 0 .neq (.t 61) (.t 62))), none⟩])
 (.cond (.t 63) (.seq (.reg [⟨(some 4), (.p (.mv (.c (u3' 0)))), none⟩, ⟨(some 5), (.p (.mv (.c (bo' false)))), none⟩])
 .ret)
 .skip))
 (.seq (.reg [(mv' 64 6), (mv' 4 64), ⟨(some 5), (.p (.mv (.c (bo' true)))), none⟩])
 .ret)))))⟩
/- (*corral/hart.Hart).Begin -/
def af43 : AFunc := ⟨10, [.t 2],
 (.seq (.reg [⟨(some 2), (.p (.mv (.c .nilPtr))), none⟩])
 (.seq (.reg [(mv' 3 0), (nc' 4 3), (fa' 5 11 4), (ld' 6 1 5), ⟨(some 7), (.p (.build [(i6' 0), (u3' 0), (u3' 0), (u3' 0), (u3' 0), (u3' 0), .nilSlice, .nilSlice, (u3' 0), (u3' 0), (bo' false), (i6' 0), (i6' 0)] [(1, 1, (.t 6))])), none⟩, ⟨(some 8), (.p (.build [(i6' 0), (u3' 0), (u3' 0), (u3' 0), (u3' 0), (u3' 0), .nilSlice, .nilSlice, (u3' 0), (u3' 0), (bo' false), (i6' 0), (i6' 0), (bo' false), (bo' false)] [(0, 13, (.t 7))])), none⟩, ⟨(some 9), (.box 15 (.t 8)), none⟩, (mv' 2 9)])
 .ret))⟩
/- (*corral/hart.Draft).Ask -/
def af44 : AFunc := ⟨79, [.cell 4 true 6],
 (.seq (.reg [⟨(some 4), (.newC [(i6' 0), (u3' 0), (u3' 0), (i6' 0), (bo' false), (i6' 0)]), none⟩])
 (.seq (.seq (.reg [(mv' 9 1), (nc' 10 9), (fa' 11 11 10), (ld' 12 1 11), ⟨(some 13), (.p (.bin 0 .rem (.t 12) (.c (u3' 4)))), none⟩, ⟨(some 14), (.p (.bin 0 .neq (.t 13) (.c (u3' 0)))), none⟩])
 (.cond (.t 14) (.seq (.reg [(mv' 15 0), (mv' 16 1), (nc' 17 16), (fa' 18 11 17), (ld' 19 1 18), ⟨(some 20), (.call (.f 62) [(.t 15), (.c (u3' 0)), (.t 19)]), none⟩, (so' 6 4 20)])
 .ret)
 .skip))
 (.seq (.reg [(mv' 22 0), (mv' 23 1), (mv' 24 1), (nc' 25 24), (fa' 26 11 25), (ld' 27 1 26), ⟨(some 28), (.call (.f 63) [(.t 22), (.t 23), (.t 27), (.c (i6' 1))]), none⟩, (mv' 21 28), (ex' 29 0 21), (ex' 30 1 21), (ex' 31 2 21), ⟨(some 6), (.newC [(i6' 0), (u3' 0), (u3' 0), (i6' 0), (bo' false), (i6' 0)]), none⟩, (mv' 5 29), (so' 6 6 30), (mv' 7 31)])
 (.seq (.seq (.reg [(mv' 32 7), ⟨(some 33), (.p (.un .not (.t 32))), none⟩])
 (.cond (.t 33) (.seq (.reg [(lg' 34 6 6), (so' 6 4 34)])
 .ret)
 .skip))
 (.seq (.reg [(mv' 35 0), (mv' 36 5), (nc' 37 35), (fa' 38 0 37), (fa' 39 3 38), (so' 1 39 36)])
 (.seq (.seq (.reg [(mv' 40 1), (mv' 41 5), ⟨(some 42), (.call (.f 64) [(.t 40), (.t 41), (.c (i6' 4))]), none⟩, ⟨(some 43), (.p (.un .not (.t 42))), none⟩])
 (.cond (.t 43) (.seq (.reg [(mv' 44 0), (mv' 45 1), (nc' 46 45), (fa' 47 11 46), (ld' 48 1 47), ⟨(some 49), (.call (.f 62) [(.t 44), (.c (u3' 1)), (.t 48)]), none⟩, (so' 6 4 49)])
 .ret)
 .skip))
 (.seq (.seq (.reg [(mv' 50 0), (nc' 51 50), (fa' 52 13 51), (ld' 53 1 52), ⟨(some 54), (.p (.un .not (.t 53))), none⟩])
 (.cond (.t 54) (.seq (.reg [(mv' 55 5), ⟨(some 56), (.p (.build [(i6' 0), (u3' 0), (u3' 0), (i6' 0), (bo' false), (i6' 0)] [(0, 1, (.c (i6' 3))), (1, 1, (.t 55)), (3, 1, (.c (i6' 4))), (4, 1, (.c (bo' true)))])), none⟩, (so' 6 4 56)])
 .ret)
 .skip))
 (.seq (.reg [(mv' 58 0), (nc' 59 58), (fa' 60 0 59), (fa' 61 2 60), (ld' 62 1 61), ⟨(some 63), (.call (.f 56) [(.t 62)]), none⟩, (mv' 57 63), (ex' 64 0 57), (ex' 65 1 57), ⟨(some 8), (.newC [(i6' 0), (i6' 0), (i6' 0), (i6' 0), (i6' 0), (u3' 0), (bo' false), (bo' false)]), none⟩, (so' 8 8 64), (mv' 7 65)])
 (.seq (.seq (.reg [(mv' 66 7), ⟨(some 67), (.p (.un .not (.t 66))), none⟩])
 (.cond (.t 67) (.seq (.reg [(mv' 68 0), (mv' 69 0), (nc' 70 69), (fa' 71 0 70), (fa' 72 2 71), (ld' 73 1 72), ⟨(some 74), (.call (.f 62) [(.t 68), (.c (u3' 2)), (.t 73)]), none⟩, (so' 6 4 74)])
 .ret)
 .skip))
 (.seq (.reg [(mv' 75 0), (mv' 76 1), (lg' 77 8 8), ⟨(some 78), (.call (.f 65) [(.t 75), (.t 76), (.t 77)]), none⟩, (so' 6 4 78)])
 .ret))))))))))⟩
/- (*corral/hart.Draft).Entry -/
def af45 : AFunc := ⟨19, [],
 (.seq (.reg [⟨(some 4), (.box 6 (.t 1)), none⟩, ⟨(some 5), (.box 5 (.t 2)), none⟩])
 (.seq (.reg [(mv' 7 0), (fa' 8 4 4), (ld' 9 1 8), ⟨(some 10), (.call (.f 66) [(.t 7), (.t 9)]), none⟩, (mv' 6 10)])
 (.draw [((mv' 11 6), []), ((mv' 12 6), []), ((nc' 13 12), []), ((ld' 14 1 13), []), ((lg' 15 5 5), []), (⟨(some 16), (.mkArr 5 1 [(u3' 0), (u3' 0), (u3' 0), (i6' 0), (bo' false)] [(0, 5, (.t 15))]), none⟩, []), (⟨(some 17), (.append 5 32 (.t 14) (.t 16)), none⟩, []), ((nc' 18 11), []), ((so' 1 18 17), [])])))⟩
/- (*corral/hart.Draft).Marked -/
def af46 : AFunc := ⟨38, [],
 (.seq (.reg [⟨(some 4), (.box 6 (.t 1)), none⟩])
 (.seq (.reg [(mv' 8 0), (fa' 9 4 4), (ld' 10 1 9), ⟨(some 11), (.call (.f 66) [(.t 8), (.t 10)]), none⟩, (nc' 12 11), (ld' 13 1 12), (mv' 6 13)])
 (.seq (.reg [(mv' 14 6), (mv' 15 6), ⟨(some 16), (.p (.lenS (.t 15))), none⟩, ⟨(some 17), (.p (.bin 0 .sub (.t 16) (.c (i6' 1)))), none⟩, ⟨(some 18), (.p (.idxSl 5 (.t 14) (.t 17))), none⟩, (mv' 7 18)])
 (.draw [((mv' 19 7), []), ((mv' 20 7), []), ((mv' 21 7), []), ((mv' 22 7), []), ((mv' 23 7), []), ((nc' 24 23), []), ((fa' 25 1 24), []), ((ld' 26 1 25), []), ((fa' 27 2 4), []), ((ld' 28 1 27), [13]), ((mv' 29 2), []), ((nc' 30 19), []), ((fa' 31 2 30), []), ((so' 1 31 26), []), ((nc' 32 20), []), ((fa' 33 1 32), []), ((so' 1 33 28), []), ((nc' 34 21), []), ((fa' 35 4 34), []), (⟨none, (.store 1 (.t 35) (.c (bo' true))), none⟩, []), ((nc' 36 22), []), ((fa' 37 3 36), []), ((so' 1 37 29), [])]))))⟩
/- (*corral/seq.Machine).write -/
def af47 : AFunc := ⟨69, [],
 (.seq (.seq (.reg [(mv' 15 2), ⟨(some 16), (.call (.f 67) [(.t 15)]), none⟩, (mv' 14 16), (ex' 17 0 14), (ex' 18 1 14), (mv' 10 17), (mv' 11 18)])
 (.seq (.reg [(mv' 19 11)])
 (.cond (.t 19) (.seq (.reg [(mv' 20 0), (mv' 21 10), (mv' 22 4), ⟨(some 23), (.p (.bin 0 .neq (.t 22) (.c (u3' 0)))), none⟩, ⟨(some 24), (.call (.f 68) [(.t 20), (.t 21), (.t 23)]), none⟩])
 .ret)
 .skip)))
 (.seq (.reg [(mv' 25 0), (nc' 26 25), (fa' 27 1 26), (ld' 28 1 27), (mv' 29 2), (mv' 30 3), (mv' 31 4), ⟨(some 32), (.call (.f 69) [(.t 28), (.t 29), (.t 30), (.t 31)]), none⟩])
 (.seq (.reg [(mv' 33 0), (nc' 34 33), (fa' 35 0 34), (ld' 36 1 35), ⟨(some 37), (.p (.lenS (.t 36))), none⟩, ⟨(some 38), (.p (.mv (.c (i6' 0)))), none⟩])
 (.block 0 (.loop (.seq (.reg [⟨(some 39), (.p (.bin 0 .lss (.t 38) (.t 37))), none⟩])
 (.seq (.cond (.t 39) .skip
 (.exit 0))
 (.seq (.block 1 (.seq (.reg [⟨(some 40), (.p (.idxSl 1 (.t 36) (.t 38))), none⟩, (ld' 41 1 40), (mv' 13 41)])
 (.seq (.reg [(mv' 42 13), (mv' 43 1), ⟨(some 44), (.ptrEq true (.t 42) (.t 43)), none⟩, (mv' 45 44), ⟨(some 46), (.p (.mv (.t 2))), (some (45, true))⟩, ⟨(some 47), (.p (.mv (.t 13))), (some (45, true))⟩, ⟨(some 48), (.p (.nilCheck (.t 47))), (some (45, true))⟩, ⟨(some 49), (.p (.fieldAddr 2 (.t 48))), (some (45, true))⟩, ⟨(some 50), (.load false 1 (.t 49)), (some (45, true))⟩, ⟨(some 51), (.p (.bin 0 .add (.t 50) (.c (u3' 4)))), (some (45, true))⟩, ⟨(some 52), (.p (.bin 0 .lss (.t 46) (.t 51))), (some (45, true))⟩, ⟨(some 53), (.pick (.t 45) (.t 52) (.c (bo' false))), none⟩, (mv' 54 53), ⟨(some 55), (.p (.mv (.t 13))), (some (54, true))⟩, ⟨(some 56), (.p (.nilCheck (.t 55))), (some (54, true))⟩, ⟨(some 57), (.p (.fieldAddr 2 (.t 56))), (some (54, true))⟩, ⟨(some 58), (.load false 1 (.t 57)), (some (54, true))⟩, ⟨(some 59), (.p (.mv (.t 2))), (some (54, true))⟩, ⟨(some 60), (.p (.mv (.t 3))), (some (54, true))⟩, ⟨(some 61), (.p (.conv .u32 (.t 60))), (some (54, true))⟩, ⟨(some 62), (.p (.bin 0 .add (.t 59) (.t 61))), (some (54, true))⟩, ⟨(some 63), (.p (.bin 0 .lss (.t 58) (.t 62))), (some (54, true))⟩, ⟨(some 64), (.pick (.t 54) (.t 63) (.c (bo' false))), none⟩])
 (.cond (.t 64) (.reg [(mv' 65 13), (nc' 66 65), (fa' 67 1 66), ⟨none, (.store 1 (.t 67) (.c (bo' false))), none⟩])
 .skip))))
 (.reg [⟨(some 68), (.p (.bin 0 .add (.t 38) (.c (i6' 1)))), none⟩, (mv' 38 68)])))))))))⟩
/- (*corral/hart.Draft).Word -/
def af48 : AFunc := ⟨19, [],
 (.reg [(mv' 6 0), (mv' 7 0), (mv' 8 0), (mv' 9 1), (mv' 10 2), (nc' 11 6), (fa' 12 0 11), (fa' 13 2 12), (so' 1 13 9), (nc' 14 7), (fa' 15 0 14), (fa' 16 11 15), (so' 1 16 10), (nc' 17 8), (fa' 18 13 17), ⟨none, (.store 1 (.t 18) (.c (bo' true))), none⟩])⟩
/- (*corral/hart.Draft).Got -/
def af49 : AFunc := ⟨12, [],
 (.reg [(mv' 4 0), (mv' 5 0), (mv' 6 1), (nc' 7 4), (fa' 8 0 7), (fa' 9 5 8), (so' 1 9 6), (nc' 10 5), (fa' 11 14 10), ⟨none, (.store 1 (.t 11) (.c (bo' true))), none⟩])⟩
/- (*corral/seq.Machine).read -/
def af50 : AFunc := ⟨46, [.t 6],
 (.seq (.reg [⟨(some 6), (.p (.mv (.c (u3' 0)))), none⟩])
 (.seq (.seq (.reg [(mv' 13 1), ⟨(some 14), (.call (.f 67) [(.t 13)]), none⟩, (mv' 12 14), (ex' 15 0 12), (ex' 16 1 12), (mv' 7 15), (mv' 8 16)])
 (.seq (.reg [(mv' 17 8)])
 (.cond (.t 17) (.seq (.seq (.reg [(mv' 18 0), (mv' 19 7), ⟨(some 20), (.call (.f 24) [(.t 18), (.t 19)]), none⟩, (mv' 9 20)])
 (.seq (.reg [(mv' 21 9), ⟨(some 22), (.p (.nilEq 0 true (.t 21) (.c .nilPtr))), none⟩, (mv' 23 22), ⟨(some 24), (.p (.mv (.t 9))), (some (23, true))⟩, ⟨(some 25), (.p (.nilCheck (.t 24))), (some (23, true))⟩, ⟨(some 26), (.p (.fieldAddr 0 (.t 25))), (some (23, true))⟩, ⟨(some 27), (.load false 1 (.t 26)), (some (23, true))⟩, ⟨(some 28), (.p (.nilCheck (.t 27))), (some (23, true))⟩, ⟨(some 29), (.p (.fieldAddr 0 (.t 28))), (some (23, true))⟩, ⟨(some 30), (.call (.f 70) [(.t 29)]), (some (23, true))⟩, ⟨(some 31), (.p (.idxSl 1 (.t 30) (.c (i6' 8)))), (some (23, true))⟩, ⟨(some 32), (.load false 1 (.t 31)), (some (23, true))⟩, ⟨(some 33), (.p (.bin 0 .neq (.t 32) (.c (u3' 0)))), (some (23, true))⟩, ⟨(some 34), (.pick (.t 23) (.t 33) (.c (bo' false))), none⟩])
 (.cond (.t 34) (.seq (.reg [⟨(some 6), (.p (.mv (.c (u3' 1)))), none⟩])
 .ret)
 .skip)))
 (.seq (.reg [⟨(some 6), (.p (.mv (.c (u3' 0)))), none⟩])
 .ret))
 .skip)))
 (.seq (.reg [(mv' 36 0), (nc' 37 36), (fa' 38 1 37), (ld' 39 1 38), (mv' 40 1), (mv' 41 2), ⟨(some 42), (.call (.f 11) [(.t 39), (.t 40), (.t 41)]), none⟩, (mv' 35 42), (ex' 43 0 35), (ex' 44 1 35), (mv' 10 43), (mv' 11 44)])
 (.seq (.reg [(mv' 45 10), (mv' 6 45)])
 .ret))))⟩
/- (*corral/hart.Draft).Done -/
def af51 : AFunc := ⟨12, [],
 (.reg [(mv' 4 0), (mv' 5 0), (mv' 6 1), (nc' 7 4), (fa' 8 0 7), (fa' 9 10 8), (so' 1 9 6), (nc' 10 5), (fa' 11 14 10), ⟨none, (.store 1 (.t 11) (.c (bo' true))), none⟩])⟩
/- (*corral/csr.File).Get -/
def af52 : AFunc := ⟨21, [.t 4, .t 5],
 (.seq (.reg [⟨(some 4), (.p (.mv (.c (u3' 0)))), none⟩, ⟨(some 5), (.p (.mv (.c (bo' false)))), none⟩])
 (.seq (.reg [(mv' 7 0), (mv' 8 1), ⟨(some 9), (.call (.f 71) [(.t 7), (.t 8)]), none⟩, (mv' 6 9)])
 (.seq (.seq (.reg [(mv' 10 6), ⟨(some 11), (.p (.nilEq 0 false (.t 10) (.c .nilPtr))), none⟩, (mv' 12 11), ⟨(some 13), (.p (.mv (.t 0))), (some (12, false))⟩, ⟨(some 14), (.p (.nilCheck (.t 13))), (some (12, false))⟩, ⟨(some 15), (.p (.fieldAddr 0 (.t 14))), (some (12, false))⟩, ⟨(some 16), (.load false 1 (.t 15)), (some (12, false))⟩, ⟨(some 17), (.pick (.t 12) (.c (bo' true)) (.t 16)), none⟩])
 (.cond (.t 17) (.seq (.reg [⟨(some 4), (.p (.mv (.c (u3' 0)))), none⟩, ⟨(some 5), (.p (.mv (.c (bo' false)))), none⟩])
 .ret)
 .skip))
 (.seq (.reg [(mv' 18 6), (nc' 19 18), (ld' 20 1 19), (mv' 4 20), ⟨(some 5), (.p (.mv (.c (bo' true)))), none⟩])
 .ret))))⟩
/- (*corral/hart.Hart).follow -/
def af53 : AFunc := ⟨132, [.cell 4 true 13, .t 5],
 (.seq (.reg [⟨(some 3), (.box 13 (.t 1)), none⟩, ⟨(some 4), (.newC [(i6' 0), (u3' 0), (u3' 0), (u3' 0), (u3' 0), (u3' 0), .nilSlice, .nilSlice, (u3' 0), (u3' 0), (bo' false), (i6' 0), (i6' 0)]), none⟩, ⟨(some 5), (.p (.mv (.c (bo' false)))), none⟩])
 (.seq (.seq (.reg [(fa' 12 0 3), (ld' 13 1 12), ⟨(some 14), (.p (.bin 0 .eql (.t 13) (.c (i6' 3)))), none⟩])
 (.cond (.t 14) (.seq (.reg [(mv' 15 0), (nc' 16 15), (fa' 17 0 16), ⟨(some 18), (.call (.f 72) [(.t 17), (.c (bo' true))]), none⟩])
 (.seq (.reg [(mv' 20 0), (nc' 21 20), (fa' 22 0 21), ⟨(some 23), (.call (.f 33) [(.t 22)]), none⟩, (mv' 19 23), (ex' 24 0 19), (ex' 25 1 19), (mv' 6 24), (mv' 7 25)])
 (.seq (.reg [(mv' 26 0), (nc' 27 26), (fa' 28 11 27), (ld' 29 1 28), (mv' 30 6), ⟨(some 31), (.p (.build [(i6' 0), (u3' 0), (u3' 0), (u3' 0), (u3' 0), (u3' 0), .nilSlice, .nilSlice, (u3' 0), (u3' 0), (bo' false), (i6' 0), (i6' 0)] [(0, 1, (.c (i6' 3))), (1, 1, (.t 29)), (8, 1, (.t 30))])), none⟩, (mv' 32 7), (so' 13 4 31), (mv' 5 32)])
 .ret)))
 .skip))
 (.seq (.reg [(mv' 33 0), ⟨(some 34), (.call (.f 43) [(.t 33)]), none⟩, (mv' 8 34)])
 (.block 0 (.loop (.block 1 (.seq (.reg [(mv' 35 8), (mv' 36 0), ⟨(some 37), (.call (.f 44) [(.t 35), (.t 36)]), none⟩, ⟨(some 9), (.newC [(i6' 0), (u3' 0), (u3' 0), (i6' 0), (bo' false), (i6' 0)]), none⟩, (so' 6 9 37)])
 (.seq (.reg [(fa' 38 0 9), (ld' 39 1 38)])
 (.block 2 (.seq (.reg [⟨(some 42), (.p (.bin 0 .eql (.t 39) (.c (i6' 0)))), none⟩, (mv' 41 42)])
 (.cond (.t 41) (.seq (.reg [(mv' 43 8), (nc' 44 43), (fa' 45 0 44), (lg' 46 13 45), (so' 13 4 46), ⟨(some 5), (.p (.mv (.c (bo' true)))), none⟩])
 .ret)
 (.seq (.reg [⟨(some 48), (.p (.bin 0 .eql (.t 39) (.c (i6' 1)))), none⟩, (mv' 47 48)])
 (.cond (.t 47) (.seq (.draw [((fa' 49 7 3), []), ((ld' 50 1 49), []), ((mv' 51 8), []), ((nc' 52 51), []), ((fa' 53 0 52), []), ((fa' 54 7 53), []), ((ld' 55 1 54), []), (⟨(some 56), (.p (.lenS (.t 55))), none⟩, []), ((mv' 10 50), []), ((mv' 11 56), [])])
 (.seq (.seq (.reg [(fa' 57 4 9), (ld' 58 1 57)])
 (.cond (.t 58) (.draw [((fa' 59 6 3), []), ((ld' 60 1 59), []), ((mv' 61 8), []), ((nc' 62 61), []), ((fa' 63 0 62), []), ((fa' 64 6 63), []), ((ld' 65 1 64), []), (⟨(some 66), (.p (.lenS (.t 65))), none⟩, []), ((mv' 10 60), []), ((mv' 11 66), [])])
 .skip))
 (.seq (.seq (.draw [((mv' 67 11), []), ((mv' 68 10), []), (⟨(some 69), (.p (.lenS (.t 68))), none⟩, []), (⟨(some 70), (.p (.bin 0 .geq (.t 67) (.t 69))), none⟩, []), ((mv' 71 70), []), (⟨(some 72), (.p (.mv (.t 10))), (some (71, false))⟩, []), (⟨(some 73), (.p (.mv (.t 11))), (some (71, false))⟩, []), (⟨(some 74), (.p (.idxSl 5 (.t 72) (.t 73))), (some (71, false))⟩, []), (⟨(some 75), (.p (.fieldAddr 0 (.t 74))), (some (71, false))⟩, []), (⟨(some 76), (.load false 1 (.t 75)), (some (71, false))⟩, []), (⟨(some 77), (.p (.fieldAddr 1 (.t 9))), (some (71, false))⟩, []), (⟨(some 78), (.load false 1 (.t 77)), (some (71, false))⟩, []), (⟨(some 79), (.p (.bin 0 .neq (.t 76) (.t 78))), (some (71, false))⟩, []), (⟨(some 80), (.pick (.t 71) (.c (bo' true)) (.t 79)), none⟩, [])])
 (.cond (.t 80) (.seq (.reg [⟨(some 81), (.p (.build [(i6' 0), (u3' 0), (u3' 0), (u3' 0), (u3' 0), (u3' 0), .nilSlice, .nilSlice, (u3' 0), (u3' 0), (bo' false), (i6' 0), (i6' 0)] [])), none⟩, (so' 13 4 81), ⟨(some 5), (.p (.mv (.c (bo' false)))), none⟩])
 .ret)
 .skip))
 (.draw [((mv' 82 8), []), ((lg' 83 6 9), []), ((mv' 84 10), []), ((mv' 85 11), []), (⟨(some 86), (.p (.idxSl 5 (.t 84) (.t 85))), none⟩, []), ((lg' 87 5 86), []), (⟨(some 88), (.call (.f 45) [(.t 82), (.t 83), (.t 87)]), none⟩, [])]))))
 (.seq (.reg [⟨(some 90), (.p (.bin 0 .eql (.t 39) (.c (i6' 3)))), none⟩, (mv' 89 90)])
 (.cond (.t 89) (.reg [(mv' 91 8), (fa' 92 2 3), (ld' 93 1 92), ⟨(some 94), (.call (.f 48) [(.t 91), (.t 93), (.c (i6' 0))]), none⟩])
 (.seq (.reg [⟨(some 96), (.p (.bin 0 .eql (.t 39) (.c (i6' 4)))), none⟩, (mv' 95 96)])
 (.cond (.t 95) (.seq (.seq (.draw [((fa' 97 5 3), []), ((ld' 98 1 97), []), ((fa' 99 3 9), []), ((ld' 100 1 99), []), (⟨(some 101), (.p (.bin 0 .mul (.c (i6' 8)) (.t 100))), none⟩, []), (⟨(some 102), (.call (.f 73) [(.t 98), (.c (i6' 0)), (.t 101)]), none⟩, []), ((fa' 103 5 3), []), ((ld' 104 1 103), [5]), (⟨(some 105), (.p (.bin 0 .neq (.t 102) (.t 104))), none⟩, [])])
 (.cond (.t 105) (.seq (.reg [⟨(some 106), (.p (.build [(i6' 0), (u3' 0), (u3' 0), (u3' 0), (u3' 0), (u3' 0), .nilSlice, .nilSlice, (u3' 0), (u3' 0), (bo' false), (i6' 0), (i6' 0)] [])), none⟩, (so' 13 4 106), ⟨(some 5), (.p (.mv (.c (bo' false)))), none⟩])
 .ret)
 .skip))
 (.reg [(mv' 107 8), (fa' 108 5 3), (ld' 109 1 108), ⟨(some 110), (.call (.f 49) [(.t 107), (.t 109)]), none⟩]))
 (.seq (.reg [⟨(some 112), (.p (.bin 0 .eql (.t 39) (.c (i6' 5)))), none⟩, (mv' 111 112)])
 (.cond (.t 111) (.reg [(mv' 113 8), (fa' 114 10 3), (ld' 115 1 114), ⟨(some 116), (.call (.f 51) [(.t 113), (.t 115)]), none⟩])
 (.seq (.reg [⟨(some 118), (.p (.bin 0 .eql (.t 39) (.c (i6' 6)))), none⟩, (mv' 117 118)])
 (.cond (.t 117) (.seq (.seq (.reg [(fa' 119 5 3), (ld' 120 1 119), ⟨(some 121), (.p (.bin 0 .neq (.t 120) (.c (u3' 0)))), none⟩, (mv' 122 121), ⟨(some 123), (.p (.fieldAddr 5 (.t 3))), (some (122, true))⟩, ⟨(some 124), (.load false 1 (.t 123)), (some (122, true))⟩, ⟨(some 125), (.p (.bin 0 .neq (.t 124) (.c (u3' 8)))), (some (122, true))⟩, ⟨(some 126), (.pick (.t 122) (.t 125) (.c (bo' false))), none⟩])
 (.cond (.t 126) (.seq (.reg [⟨(some 127), (.p (.build [(i6' 0), (u3' 0), (u3' 0), (u3' 0), (u3' 0), (u3' 0), .nilSlice, .nilSlice, (u3' 0), (u3' 0), (bo' false), (i6' 0), (i6' 0)] [])), none⟩, (so' 13 4 127), ⟨(some 5), (.p (.mv (.c (bo' false)))), none⟩])
 .ret)
 .skip))
 (.reg [(mv' 128 8), (fa' 129 5 3), (ld' 130 1 129), ⟨(some 131), (.call (.f 49) [(.t 128), (.t 130)]), none⟩]))
 (.seq (.reg [⟨(some 40), (.p (.build [(i6' 0), (u3' 0), (u3' 0), (u3' 0), (u3' 0), (u3' 0), .nilSlice, .nilSlice, (u3' 0), (u3' 0), (bo' false), (i6' 0), (i6' 0)] [])), none⟩, (so' 13 4 40), ⟨(some 5), (.p (.mv (.c (bo' false)))), none⟩])
 .ret))))))))))))))))))))))⟩
/- corral/hart.same -/
def af54 : AFunc := ⟨86, [.t 4],
 (.seq (.reg [⟨(some 2), (.box 13 (.t 0)), none⟩, ⟨(some 3), (.box 13 (.t 1)), none⟩, ⟨(some 4), (.p (.mv (.c (bo' false)))), none⟩])
 (.seq (.reg [(fa' 6 0 2), (ld' 7 1 6), (fa' 8 0 3), (ld' 9 1 8), ⟨(some 10), (.p (.bin 0 .eql (.t 7) (.t 9))), none⟩, (mv' 11 10), ⟨(some 12), (.p (.fieldAddr 1 (.t 2))), (some (11, true))⟩, ⟨(some 13), (.load false 1 (.t 12)), (some (11, true))⟩, ⟨(some 14), (.p (.fieldAddr 1 (.t 3))), (some (11, true))⟩, ⟨(some 15), (.load false 1 (.t 14)), (some (11, true))⟩, ⟨(some 16), (.p (.bin 0 .eql (.t 13) (.t 15))), (some (11, true))⟩, ⟨(some 17), (.pick (.t 11) (.t 16) (.c (bo' false))), none⟩, (mv' 18 17), ⟨(some 19), (.p (.fieldAddr 2 (.t 2))), (some (18, true))⟩, ⟨(some 20), (.load false 1 (.t 19)), (some (18, true))⟩, ⟨(some 21), (.p (.fieldAddr 2 (.t 3))), (some (18, true))⟩, ⟨(some 22), (.load false 1 (.t 21)), (some (18, true))⟩, ⟨(some 23), (.p (.bin 0 .eql (.t 20) (.t 22))), (some (18, true))⟩, ⟨(some 24), (.pick (.t 18) (.t 23) (.c (bo' false))), none⟩, (mv' 25 24), ⟨(some 26), (.p (.fieldAddr 3 (.t 2))), (some (25, true))⟩, ⟨(some 27), (.load false 1 (.t 26)), (some (25, true))⟩, ⟨(some 28), (.p (.fieldAddr 3 (.t 3))), (some (25, true))⟩, ⟨(some 29), (.load false 1 (.t 28)), (some (25, true))⟩, ⟨(some 30), (.p (.bin 0 .eql (.t 27) (.t 29))), (some (25, true))⟩, ⟨(some 31), (.pick (.t 25) (.t 30) (.c (bo' false))), none⟩, (mv' 32 31), ⟨(some 33), (.p (.fieldAddr 4 (.t 2))), (some (32, true))⟩, ⟨(some 34), (.load false 1 (.t 33)), (some (32, true))⟩, ⟨(some 35), (.p (.fieldAddr 4 (.t 3))), (some (32, true))⟩, ⟨(some 36), (.load false 1 (.t 35)), (some (32, true))⟩, ⟨(some 37), (.p (.bin 0 .eql (.t 34) (.t 36))), (some (32, true))⟩, ⟨(some 38), (.pick (.t 32) (.t 37) (.c (bo' false))), none⟩, (mv' 39 38), ⟨(some 40), (.p (.fieldAddr 5 (.t 2))), (some (39, true))⟩, ⟨(some 41), (.load false 1 (.t 40)), (some (39, true))⟩, ⟨(some 42), (.p (.fieldAddr 5 (.t 3))), (some (39, true))⟩, ⟨(some 43), (.load false 1 (.t 42)), (some (39, true))⟩, ⟨(some 44), (.p (.bin 0 .eql (.t 41) (.t 43))), (some (39, true))⟩, ⟨(some 45), (.pick (.t 39) (.t 44) (.c (bo' false))), none⟩, (mv' 5 45)])
 (.seq (.reg [(mv' 46 5), (mv' 47 46), ⟨(some 48), (.p (.fieldAddr 6 (.t 2))), (some (47, true))⟩, ⟨(some 49), (.load false 1 (.t 48)), (some (47, true))⟩, ⟨(some 50), (.p (.lenS (.t 49))), (some (47, true))⟩, ⟨(some 51), (.p (.fieldAddr 6 (.t 3))), (some (47, true))⟩, ⟨(some 52), (.load false 1 (.t 51)), (some (47, true))⟩, ⟨(some 53), (.p (.lenS (.t 52))), (some (47, true))⟩, ⟨(some 54), (.p (.bin 0 .eql (.t 50) (.t 53))), (some (47, true))⟩, ⟨(some 55), (.pick (.t 47) (.t 54) (.c (bo' false))), none⟩, (mv' 56 55), ⟨(some 57), (.p (.fieldAddr 7 (.t 2))), (some (56, true))⟩, ⟨(some 58), (.load false 1 (.t 57)), (some (56, true))⟩, ⟨(some 59), (.p (.lenS (.t 58))), (some (56, true))⟩, ⟨(some 60), (.p (.fieldAddr 7 (.t 3))), (some (56, true))⟩, ⟨(some 61), (.load false 1 (.t 60)), (some (56, true))⟩, ⟨(some 62), (.p (.lenS (.t 61))), (some (56, true))⟩, ⟨(some 63), (.p (.bin 0 .eql (.t 59) (.t 62))), (some (56, true))⟩, ⟨(some 64), (.pick (.t 56) (.t 63) (.c (bo' false))), none⟩, (mv' 65 64), ⟨(some 66), (.p (.fieldAddr 8 (.t 2))), (some (65, true))⟩, ⟨(some 67), (.load false 1 (.t 66)), (some (65, true))⟩, ⟨(some 68), (.p (.fieldAddr 8 (.t 3))), (some (65, true))⟩, ⟨(some 69), (.load false 1 (.t 68)), (some (65, true))⟩, ⟨(some 70), (.p (.bin 0 .eql (.t 67) (.t 69))), (some (65, true))⟩, ⟨(some 71), (.pick (.t 65) (.t 70) (.c (bo' false))), none⟩, (mv' 72 71), ⟨(some 73), (.p (.fieldAddr 9 (.t 2))), (some (72, true))⟩, ⟨(some 74), (.load false 1 (.t 73)), (some (72, true))⟩, ⟨(some 75), (.p (.fieldAddr 9 (.t 3))), (some (72, true))⟩, ⟨(some 76), (.load false 1 (.t 75)), (some (72, true))⟩, ⟨(some 77), (.p (.bin 0 .eql (.t 74) (.t 76))), (some (72, true))⟩, ⟨(some 78), (.pick (.t 72) (.t 77) (.c (bo' false))), none⟩, (mv' 79 78), ⟨(some 80), (.p (.fieldAddr 10 (.t 2))), (some (79, true))⟩, ⟨(some 81), (.load false 1 (.t 80)), (some (79, true))⟩, ⟨(some 82), (.p (.fieldAddr 10 (.t 3))), (some (79, true))⟩, ⟨(some 83), (.load false 1 (.t 82)), (some (79, true))⟩, ⟨(some 84), (.p (.bin 1 .eql (.t 81) (.t 83))), (some (79, true))⟩, ⟨(some 85), (.pick (.t 79) (.t 84) (.c (bo' false))), none⟩, (mv' 4 85)])
 .ret)))⟩
/- (*corral/hart.Hart).do -/
def af55 : AFunc := ⟨106, [.cell 4 true 7],
 (.seq (.reg [⟨(some 3), (.box 13 (.t 1)), none⟩, ⟨(some 4), (.newC [(i6' 0), (u3' 0), (i6' 0), (u3' 0), (bo' false), (bo' false), (bo' false)]), none⟩])
 (.seq (.seq (.reg [(fa' 13 0 3), (ld' 14 1 13), ⟨(some 15), (.p (.bin 0 .neq (.t 14) (.c (i6' 1)))), none⟩])
 (.cond (.t 15) (.seq (.draw [((mv' 16 0), []), ((mv' 17 0), []), ((nc' 18 17), []), ((fa' 19 0 18), []), ((fa' 20 8 3), []), ((ld' 21 1 20), []), ((fa' 22 9 3), []), ((ld' 23 1 22), []), ((mv' 24 0), []), ((nc' 25 24), []), ((fa' 26 11 25), []), ((ld' 27 1 26), []), (⟨(some 28), (.call (.f 74) [(.t 19), (.t 21), (.t 23), (.t 27)]), none⟩, []), ((nc' 29 16), []), ((fa' 30 11 29), []), ((so' 1 30 28), [])])
 (.seq (.reg [⟨(some 31), (.p (.build [(i6' 0), (u3' 0), (i6' 0), (u3' 0), (bo' false), (bo' false), (bo' false)] [])), none⟩, (so' 7 4 31)])
 .ret))
 .skip))
 (.seq (.reg [(fa' 33 2 3), (ld' 34 1 33), ⟨(some 35), (.call (.f 56) [(.t 34)]), none⟩, (mv' 32 35), (ex' 36 0 32), (ex' 37 1 32), ⟨(some 5), (.newC [(i6' 0), (i6' 0), (i6' 0), (i6' 0), (i6' 0), (u3' 0), (bo' false), (bo' false)]), none⟩, (so' 8 5 36), (mv' 6 37)])
 (.seq (.draw [((mv' 38 0), []), ((fa' 39 2 5), []), ((ld' 40 1 39), []), ((nc' 41 38), []), ((fa' 42 12 41), []), (⟨(some 43), (.p (.idxArr 32 1 (.t 42) (.t 40))), none⟩, []), ((ld' 44 1 43), []), ((mv' 45 0), []), ((fa' 46 3 5), []), ((ld' 47 1 46), []), ((nc' 48 45), []), ((fa' 49 12 48), []), (⟨(some 50), (.p (.idxArr 32 1 (.t 49) (.t 47))), none⟩, []), ((ld' 51 1 50), []), ((mv' 7 44), []), ((mv' 8 51), [])])
 (.seq (.draw [((lg' 52 8 5), []), ((mv' 53 0), []), ((nc' 54 53), []), ((fa' 55 11 54), []), ((ld' 56 1 55), []), ((mv' 57 7), []), ((mv' 58 8), []), (⟨(some 59), (.call (.f 75) [(.t 52), (.t 56), (.t 57), (.t 58)]), none⟩, []), ((mv' 9 59), [])])
 (.seq (.seq (.draw [((lg' 61 8 5), []), ((mv' 62 0), []), ((nc' 63 62), []), ((fa' 64 11 63), []), ((ld' 65 1 64), []), ((mv' 66 7), []), ((mv' 67 8), []), (⟨(some 68), (.call (.f 76) [(.t 61), (.t 65), (.t 66), (.t 67)]), none⟩, []), ((mv' 60 68), []), ((ex' 69 0 60), []), ((ex' 70 1 60), []), ((mv' 10 69), []), ((mv' 11 70), [])])
 (.seq (.reg [(mv' 71 11)])
 (.cond (.t 71) (.reg [(mv' 72 0), (fa' 73 1 5), (ld' 74 1 73), (mv' 75 10), ⟨(some 76), (.call (.f 77) [(.t 72), (.t 74), (.t 75)]), none⟩])
 .skip)))
 (.seq (.reg [⟨(some 77), (.p (.build [(i6' 0), (u3' 0), (i6' 0), (u3' 0), (bo' false), (bo' false), (bo' false)] [])), none⟩, ⟨(some 12), (.newC [(i6' 0), (u3' 0), (i6' 0), (u3' 0), (bo' false), (bo' false), (bo' false)]), none⟩, (so' 7 12 77)])
 (.seq (.seq (.reg [(fa' 78 0 5), (ld' 79 1 78), ⟨(some 80), (.call (.f 78) [(.t 79)]), none⟩])
 (.block 0 (.seq (.seq (.reg [⟨(some 82), (.p (.bin 0 .eql (.t 80) (.c (i6' 4)))), none⟩, (mv' 81 82)])
 (.cond (.t 81) .skip
 (.seq (.reg [⟨(some 83), (.p (.bin 0 .eql (.t 80) (.c (i6' 5)))), none⟩, (mv' 81 83)])
 (.cond (.t 81) .skip
 (.reg [⟨(some 84), (.p (.bin 0 .eql (.t 80) (.c (i6' 6)))), none⟩, (mv' 81 84)])))))
 (.cond (.t 81) (.reg [(mv' 85 0), (lg' 86 8 5), (lg' 87 13 3), (mv' 88 8), ⟨(some 89), (.call (.f 79) [(.t 85), (.t 86), (.t 87), (.t 88)]), none⟩, (so' 7 12 89)])
 (.seq (.reg [⟨(some 91), (.p (.bin 0 .eql (.t 80) (.c (i6' 7)))), none⟩, (mv' 90 91)])
 (.cond (.t 90) (.reg [(mv' 93 0), (lg' 94 8 5), (lg' 95 13 3), (mv' 96 7), (mv' 97 9), ⟨(some 98), (.call (.f 80) [(.t 93), (.t 94), (.t 95), (.t 96), (.t 97)]), none⟩, (mv' 92 98), (ex' 99 0 92), (ex' 100 1 92), (so' 7 12 99), (mv' 9 100)])
 .skip))))))
 (.seq (.reg [(mv' 101 0), (mv' 102 9), (nc' 103 101), (fa' 104 11 103), (so' 1 104 102)])
 (.seq (.reg [(lg' 105 7 12), (so' 7 4 105)])
 .ret))))))))))⟩
/- corral/isa.Decode -/
def af56 : AFunc := ⟨20, [.cell 2 true 8, .t 3],
 (.seq (.reg [⟨(some 2), (.newC [(i6' 0), (i6' 0), (i6' 0), (i6' 0), (i6' 0), (u3' 0), (bo' false), (bo' false)]), none⟩, ⟨(some 3), (.p (.mv (.c (bo' false)))), none⟩])
 (.seq (.seq (.reg [⟨(some 6), (.call (.f 81) []), none⟩, ⟨(some 7), (.p (.lenS (.t 6))), none⟩, ⟨(some 8), (.p (.mv (.c (i6' 0)))), none⟩])
 (.block 0 (.loop (.seq (.reg [⟨(some 9), (.p (.bin 0 .lss (.t 8) (.t 7))), none⟩])
 (.seq (.cond (.t 9) .skip
 (.exit 0))
 (.seq (.block 1 (.seq (.reg [⟨(some 10), (.p (.idxSl 7 (.t 6) (.t 8))), none⟩, (lg' 11 7 10), ⟨(some 5), (.newC [(i6' 0), (.str ⟨#[]⟩), (i6' 0), (u3' 0), (u3' 0), (u3' 0), (i6' 0)]), none⟩, (so' 7 5 11)])
 (.seq (.reg [(lg' 12 7 5), (mv' 13 0), ⟨(some 14), (.call (.f 82) [(.t 12), (.t 13)]), none⟩])
 (.cond (.t 14) (.seq (.reg [(lg' 15 7 5), (mv' 16 0), ⟨(some 17), (.call (.f 83) [(.t 15), (.t 16)]), none⟩, (so' 8 2 17), ⟨(some 3), (.p (.mv (.c (bo' true)))), none⟩])
 .ret)
 .skip))))
 (.reg [⟨(some 18), (.p (.bin 0 .add (.t 8) (.c (i6' 1)))), none⟩, (mv' 8 18)])))))))
 (.seq (.reg [⟨(some 19), (.p (.build [(i6' 0), (i6' 0), (i6' 0), (i6' 0), (i6' 0), (u3' 0), (bo' false), (bo' false)] [])), none⟩, (so' 8 2 19), ⟨(some 3), (.p (.mv (.c (bo' false)))), none⟩])
 .ret)))⟩
/- (*corral/seq.one).wakes -/
def af57 : AFunc := ⟨20, [.t 2],
 (.seq (.reg [⟨(some 2), (.p (.mv (.c (bo' false)))), none⟩])
 (.seq (.reg [(mv' 4 0), (nc' 5 4), (fa' 6 0 5), (ld' 7 1 6), (nc' 8 7), (fa' 9 0 8), ⟨(some 10), (.call (.f 70) [(.t 9)]), none⟩, (mv' 3 10)])
 (.seq (.draw [((mv' 11 3), []), (⟨(some 12), (.p (.idxSl 1 (.t 11) (.c (i6' 2)))), none⟩, []), ((ld' 13 1 12), []), ((mv' 14 3), []), (⟨(some 15), (.p (.idxSl 1 (.t 14) (.c (i6' 8)))), none⟩, []), ((ld' 16 1 15), []), (⟨(some 17), (.p (.bin 0 .and (.t 13) (.t 16))), none⟩, []), (⟨(some 18), (.p (.bin 0 .and (.t 17) (.c (u3' 8)))), none⟩, []), (⟨(some 19), (.p (.bin 0 .neq (.t 18) (.c (u3' 0)))), none⟩, []), ((mv' 2 19), [])])
 .ret)))⟩
/- corral/corralref1.row -/
def af58 : AFunc := ⟨60, [.cell 14 true 14],
 (.seq (.reg [⟨(some 14), (.newC [(i6' 0), (.str ⟨#[]⟩), (u3' 0), (u3' 0), (u3' 0), (bo' false), (bo' false), (.int .u8 (.lit 0)), (bo' false), (bo' false), (bo' false), (bo' false), (u3' 0), (bo' false)]), none⟩])
 (.seq (.reg [(mv' 17 0), (mv' 18 1), (mv' 19 2), ⟨(some 20), (.p (.conv .u32 (.t 19))), none⟩, (mv' 21 5), ⟨(some 22), (.p (.build [(i6' 0), (.str ⟨#[]⟩), (u3' 0), (u3' 0), (u3' 0), (bo' false), (bo' false), (.int .u8 (.lit 0)), (bo' false), (bo' false), (bo' false), (bo' false), (u3' 0), (bo' false)] [(0, 1, (.t 17)), (1, 1, (.t 18)), (2, 1, (.t 20)), (7, 1, (.t 21))])), none⟩, ⟨(some 15), (.newC [(i6' 0), (.str ⟨#[]⟩), (u3' 0), (u3' 0), (u3' 0), (bo' false), (bo' false), (.int .u8 (.lit 0)), (bo' false), (bo' false), (bo' false), (bo' false), (u3' 0), (bo' false)]), none⟩, (so' 14 15 22)])
 (.seq (.seq (.reg [(mv' 23 3), ⟨(some 24), (.p (.bin 0 .geq (.t 23) (.c (i6' 0)))), none⟩])
 (.cond (.t 24) (.seq (.reg [(mv' 25 3), ⟨(some 26), (.p (.conv .u32 (.t 25))), none⟩, (fa' 27 3 15), (so' 1 27 26)])
 (.reg [(fa' 28 5 15), ⟨none, (.store 1 (.t 28) (.c (bo' true))), none⟩]))
 .skip))
 (.seq (.seq (.reg [(mv' 29 4), ⟨(some 30), (.p (.bin 0 .geq (.t 29) (.c (i6' 0)))), none⟩])
 (.cond (.t 30) (.seq (.reg [(mv' 31 4), ⟨(some 32), (.p (.conv .u32 (.t 31))), none⟩, (fa' 33 4 15), (so' 1 33 32)])
 (.reg [(fa' 34 6 15), ⟨none, (.store 1 (.t 34) (.c (bo' true))), none⟩]))
 .skip))
 (.seq (.seq (.reg [⟨(some 16), (.p (.mv (.c (i6' 0)))), none⟩])
 (.block 0 (.loop (.seq (.seq (.reg [(mv' 35 16), (mv' 36 6), ⟨(some 37), (.p (.lenStr (.t 36))), none⟩, ⟨(some 38), (.p (.bin 0 .lss (.t 35) (.t 37))), none⟩])
 (.cond (.t 38) .skip
 (.exit 0)))
 (.seq (.block 1 (.seq (.reg [(mv' 41 6), (mv' 42 16), ⟨(some 43), (.p (.idxStr (.t 41) (.t 42))), none⟩])
 (.block 2 (.seq (.reg [⟨(some 45), (.p (.bin 0 .eql (.t 43) (.c (.int .u8 (.lit 100))))), none⟩, (mv' 44 45)])
 (.cond (.t 44) (.reg [(fa' 46 8 15), ⟨none, (.store 1 (.t 46) (.c (bo' true))), none⟩])
 (.seq (.reg [⟨(some 48), (.p (.bin 0 .eql (.t 43) (.c (.int .u8 (.lit 97))))), none⟩, (mv' 47 48)])
 (.cond (.t 47) (.reg [(fa' 49 9 15), ⟨none, (.store 1 (.t 49) (.c (bo' true))), none⟩])
 (.seq (.reg [⟨(some 51), (.p (.bin 0 .eql (.t 43) (.c (.int .u8 (.lit 98))))), none⟩, (mv' 50 51)])
 (.cond (.t 50) (.reg [(fa' 52 10 15), ⟨none, (.store 1 (.t 52) (.c (bo' true))), none⟩])
 (.seq (.reg [⟨(some 54), (.p (.bin 0 .eql (.t 43) (.c (.int .u8 (.lit 99))))), none⟩, (mv' 53 54)])
 (.cond (.t 53) (.reg [(fa' 55 11 15), ⟨none, (.store 1 (.t 55) (.c (bo' true))), none⟩])
 (.seq (.reg [⟨(some 57), (.p (.bin 0 .eql (.t 43) (.c (.int .u8 (.lit 112))))), none⟩, (mv' 56 57)])
 (.cond (.t 56) (.reg [(fa' 58 13 15), ⟨none, (.store 1 (.t 58) (.c (bo' true))), none⟩])
 .skip)))))))))))))
 (.reg [(mv' 39 16), ⟨(some 40), (.p (.bin 0 .add (.t 39) (.c (i6' 1)))), none⟩, (mv' 16 40)]))))))
 (.seq (.reg [(lg' 59 14 15), (so' 14 14 59)])
 .ret))))))⟩
/- corral/corralref1.whole -/
def af59 : AFunc := ⟨11, [.cell 6 true 14],
 (.seq (.reg [⟨(some 6), (.newC [(i6' 0), (.str ⟨#[]⟩), (u3' 0), (u3' 0), (u3' 0), (bo' false), (bo' false), (.int .u8 (.lit 0)), (bo' false), (bo' false), (bo' false), (bo' false), (u3' 0), (bo' false)]), none⟩])
 (.seq (.reg [(mv' 7 0), (mv' 8 1), (mv' 9 2), ⟨(some 10), (.p (.build [(i6' 0), (.str ⟨#[]⟩), (u3' 0), (u3' 0), (u3' 0), (bo' false), (bo' false), (.int .u8 (.lit 0)), (bo' false), (bo' false), (bo' false), (bo' false), (u3' 0), (bo' false)] [(0, 1, (.t 7)), (1, 1, (.t 8)), (12, 1, (.t 9))])), none⟩, (so' 14 6 10)])
 .ret))⟩
/- corral/corralref1.Place -/
def af60 : AFunc := ⟨23, [.t 6],
 (.seq (.reg [⟨(some 6), (.p (.mv (.c (u3' 0)))), none⟩])
 (.seq (.seq (.reg [(mv' 7 1), ⟨(some 8), (.p (.bin 0 .lss (.t 7) (.c (i6' 0)))), none⟩, (mv' 9 8), ⟨(some 10), (.p (.mv (.t 1))), (some (9, false))⟩, ⟨(some 11), (.p (.bin 0 .gtr (.t 10) (.c (i6' 31)))), (some (9, false))⟩, ⟨(some 12), (.pick (.t 9) (.c (bo' true)) (.t 11)), none⟩, (mv' 13 12), ⟨(some 14), (.p (.mv (.t 2))), (some (13, false))⟩, ⟨(some 15), (.p (.bin 0 .lss (.t 14) (.c (i6' 1)))), (some (13, false))⟩, ⟨(some 16), (.pick (.t 13) (.c (bo' true)) (.t 15)), none⟩])
 (.cond (.t 16) (.seq (.reg [⟨(some 6), (.p (.mv (.c (u3' 0)))), none⟩])
 .ret)
 .skip))
 (.seq (.reg [(mv' 17 0), (mv' 18 2), ⟨(some 19), (.call (.f 84) [(.t 17), (.c (i6' 0)), (.t 18)]), none⟩, (mv' 20 1), ⟨(some 21), (.p (.conv .u64 (.t 20))), none⟩, ⟨(some 22), (.p (.bin 0 .shl (.t 19) (.t 21))), none⟩, (mv' 6 22)])
 .ret)))⟩
/- corral/corralref1.Imm -/
def af61 : AFunc := ⟨61, [.t 4],
 (.seq (.reg [⟨(some 4), (.p (.mv (.c (u3' 0)))), none⟩])
 (.seq (.seq (.reg [(mv' 5 0)])
 (.block 0 (.seq (.reg [⟨(some 7), (.p (.bin 0 .eql (.t 5) (.c (.int .u8 (.lit 73))))), none⟩, (mv' 6 7)])
 (.cond (.t 6) (.seq (.reg [(mv' 8 1), ⟨(some 9), (.call (.f 84) [(.t 8), (.c (i6' 20)), (.c (i6' 12))]), none⟩, ⟨(some 10), (.call (.f 85) [(.t 9), (.c (i6' 12))]), none⟩, (mv' 4 10)])
 .ret)
 (.seq (.reg [⟨(some 12), (.p (.bin 0 .eql (.t 5) (.c (.int .u8 (.lit 83))))), none⟩, (mv' 11 12)])
 (.cond (.t 11) (.seq (.reg [(mv' 13 1), ⟨(some 14), (.call (.f 84) [(.t 13), (.c (i6' 25)), (.c (i6' 7))]), none⟩, ⟨(some 15), (.p (.bin 0 .shl (.t 14) (.c (.int .u64 (.lit 5))))), none⟩, (mv' 16 1), ⟨(some 17), (.call (.f 84) [(.t 16), (.c (i6' 7)), (.c (i6' 5))]), none⟩, ⟨(some 18), (.p (.bin 0 .or (.t 15) (.t 17))), none⟩, ⟨(some 19), (.call (.f 85) [(.t 18), (.c (i6' 12))]), none⟩, (mv' 4 19)])
 .ret)
 (.seq (.reg [⟨(some 21), (.p (.bin 0 .eql (.t 5) (.c (.int .u8 (.lit 66))))), none⟩, (mv' 20 21)])
 (.cond (.t 20) (.seq (.reg [(mv' 22 1), ⟨(some 23), (.call (.f 84) [(.t 22), (.c (i6' 31)), (.c (i6' 1))]), none⟩, ⟨(some 24), (.p (.bin 0 .shl (.t 23) (.c (.int .u64 (.lit 12))))), none⟩, (mv' 25 1), ⟨(some 26), (.call (.f 84) [(.t 25), (.c (i6' 7)), (.c (i6' 1))]), none⟩, ⟨(some 27), (.p (.bin 0 .shl (.t 26) (.c (.int .u64 (.lit 11))))), none⟩, ⟨(some 28), (.p (.bin 0 .or (.t 24) (.t 27))), none⟩, (mv' 29 1), ⟨(some 30), (.call (.f 84) [(.t 29), (.c (i6' 25)), (.c (i6' 6))]), none⟩, ⟨(some 31), (.p (.bin 0 .shl (.t 30) (.c (.int .u64 (.lit 5))))), none⟩, ⟨(some 32), (.p (.bin 0 .or (.t 28) (.t 31))), none⟩, (mv' 33 1), ⟨(some 34), (.call (.f 84) [(.t 33), (.c (i6' 8)), (.c (i6' 4))]), none⟩, ⟨(some 35), (.p (.bin 0 .shl (.t 34) (.c (.int .u64 (.lit 1))))), none⟩, ⟨(some 36), (.p (.bin 0 .or (.t 32) (.t 35))), none⟩, ⟨(some 37), (.call (.f 85) [(.t 36), (.c (i6' 13))]), none⟩, (mv' 4 37)])
 .ret)
 (.seq (.reg [⟨(some 39), (.p (.bin 0 .eql (.t 5) (.c (.int .u8 (.lit 85))))), none⟩, (mv' 38 39)])
 (.cond (.t 38) (.seq (.reg [(mv' 40 1), ⟨(some 41), (.call (.f 84) [(.t 40), (.c (i6' 12)), (.c (i6' 20))]), none⟩, ⟨(some 42), (.p (.bin 0 .shl (.t 41) (.c (.int .u64 (.lit 12))))), none⟩, (mv' 4 42)])
 .ret)
 (.seq (.reg [⟨(some 44), (.p (.bin 0 .eql (.t 5) (.c (.int .u8 (.lit 74))))), none⟩, (mv' 43 44)])
 (.cond (.t 43) (.seq (.reg [(mv' 45 1), ⟨(some 46), (.call (.f 84) [(.t 45), (.c (i6' 31)), (.c (i6' 1))]), none⟩, ⟨(some 47), (.p (.bin 0 .shl (.t 46) (.c (.int .u64 (.lit 20))))), none⟩, (mv' 48 1), ⟨(some 49), (.call (.f 84) [(.t 48), (.c (i6' 12)), (.c (i6' 8))]), none⟩, ⟨(some 50), (.p (.bin 0 .shl (.t 49) (.c (.int .u64 (.lit 12))))), none⟩, ⟨(some 51), (.p (.bin 0 .or (.t 47) (.t 50))), none⟩, (mv' 52 1), ⟨(some 53), (.call (.f 84) [(.t 52), (.c (i6' 20)), (.c (i6' 1))]), none⟩, ⟨(some 54), (.p (.bin 0 .shl (.t 53) (.c (.int .u64 (.lit 11))))), none⟩, ⟨(some 55), (.p (.bin 0 .or (.t 51) (.t 54))), none⟩, (mv' 56 1), ⟨(some 57), (.call (.f 84) [(.t 56), (.c (i6' 21)), (.c (i6' 10))]), none⟩, ⟨(some 58), (.p (.bin 0 .shl (.t 57) (.c (.int .u64 (.lit 1))))), none⟩, ⟨(some 59), (.p (.bin 0 .or (.t 55) (.t 58))), none⟩, ⟨(some 60), (.call (.f 85) [(.t 59), (.c (i6' 21))]), none⟩, (mv' 4 60)])
 .ret)
 .skip))))))))))))
 (.seq (.reg [⟨(some 4), (.p (.mv (.c (u3' 0)))), none⟩])
 .ret)))⟩
/- (*corral/hart.Draft).trap -/
def af62 : AFunc := ⟨22, [.cell 6 true 6],
 (.seq (.reg [⟨(some 6), (.newC [(i6' 0), (u3' 0), (u3' 0), (i6' 0), (bo' false), (i6' 0)]), none⟩])
 (.seq (.reg [(mv' 7 0), (mv' 8 0), (mv' 9 0), (mv' 10 1), (mv' 11 2), (nc' 12 7), (fa' 13 0 12), (fa' 14 0 13), ⟨none, (.store 1 (.t 14) (.c (i6' 2))), none⟩, (nc' 15 8), (fa' 16 0 15), (fa' 17 8 16), (so' 1 17 10), (nc' 18 9), (fa' 19 0 18), (fa' 20 9 19), (so' 1 20 11)])
 (.seq (.reg [⟨(some 21), (.p (.build [(i6' 0), (u3' 0), (u3' 0), (i6' 0), (bo' false), (i6' 0)] [])), none⟩, (so' 6 6 21)])
 .ret)))⟩
/- (*corral/hart.Draft).place -/
def af63 : AFunc := ⟨61, [.t 8, .cell 9 true 6, .t 10],
 (.seq (.reg [⟨(some 8), (.p (.mv (.c (u3' 0)))), none⟩, ⟨(some 9), (.newC [(i6' 0), (u3' 0), (u3' 0), (i6' 0), (bo' false), (i6' 0)]), none⟩, ⟨(some 10), (.p (.mv (.c (bo' false)))), none⟩])
 (.seq (.reg [(mv' 13 3), ⟨(some 14), (.p (.bin 0 .eql (.t 13) (.c (i6' 1)))), none⟩, (mv' 11 14)])
 (.seq (.draw [((mv' 15 1), []), ((nc' 16 15), []), ((fa' 17 0 16), []), (⟨(some 18), (.call (.f 87) [(.t 17)]), none⟩, []), ((mv' 19 1), []), ((nc' 20 19), []), ((fa' 21 0 20), []), (⟨(some 22), (.call (.f 88) [(.t 21)]), none⟩, []), ((mv' 23 2), []), ((mv' 24 3), []), ((mv' 25 1), []), ((nc' 26 25), []), ((fa' 27 44 26), []), ((ld' 28 1 27), [3, 7, 16]), ((mv' 29 0), []), ((mv' 30 11), []), (⟨(some 31), (.call (.f 66) [(.t 29), (.t 30)]), none⟩, []), ((nc' 32 31), []), ((ld' 33 1 32), []), (⟨(some 34), (.call (.f 86) [(.t 18), (.t 22), (.t 23), (.t 24), (.t 28), (.t 33)]), none⟩, []), (⟨(some 12), (.newC [(i6' 0), (u3' 0), (u3' 0), (u3' 0), (u3' 0)]), none⟩, []), ((so' 5 12 34), [])])
 (.seq (.seq (.reg [(fa' 35 0 12), (ld' 36 1 35)])
 (.block 0 (.seq (.reg [⟨(some 38), (.p (.bin 0 .eql (.t 36) (.c (i6' 3)))), none⟩, (mv' 37 38)])
 (.cond (.t 37) (.seq (.draw [((fa' 39 2 12), []), ((ld' 40 1 39), []), ((mv' 41 11), []), (⟨(some 42), (.p (.build [(i6' 0), (u3' 0), (u3' 0), (i6' 0), (bo' false), (i6' 0)] [(0, 1, (.c (i6' 1))), (1, 1, (.t 40)), (3, 1, (.c (i6' 4))), (4, 1, (.t 41))])), none⟩, []), (⟨(some 8), (.p (.mv (.c (u3' 0)))), none⟩, []), ((so' 6 9 42), []), (⟨(some 10), (.p (.mv (.c (bo' false)))), none⟩, [])])
 .ret)
 (.seq (.reg [⟨(some 44), (.p (.bin 0 .eql (.t 36) (.c (i6' 4)))), none⟩, (mv' 43 44)])
 (.cond (.t 43) (.seq (.draw [((fa' 45 2 12), []), ((ld' 46 1 45), []), ((fa' 47 3 12), []), ((ld' 48 1 47), []), ((mv' 49 11), []), (⟨(some 50), (.p (.build [(i6' 0), (u3' 0), (u3' 0), (i6' 0), (bo' false), (i6' 0)] [(0, 1, (.c (i6' 2))), (1, 1, (.t 46)), (2, 1, (.t 48)), (3, 1, (.c (i6' 4))), (4, 1, (.t 49))])), none⟩, []), (⟨(some 8), (.p (.mv (.c (u3' 0)))), none⟩, []), ((so' 6 9 50), []), (⟨(some 10), (.p (.mv (.c (bo' false)))), none⟩, [])])
 .ret)
 (.seq (.reg [⟨(some 52), (.p (.bin 0 .eql (.t 36) (.c (i6' 2)))), none⟩, (mv' 51 52)])
 (.cond (.t 51) (.seq (.reg [(mv' 53 0), (fa' 54 4 12), (ld' 55 1 54), (mv' 56 2), ⟨(some 57), (.call (.f 62) [(.t 53), (.t 55), (.t 56)]), none⟩, ⟨(some 8), (.p (.mv (.c (u3' 0)))), none⟩, (so' 6 9 57), ⟨(some 10), (.p (.mv (.c (bo' false)))), none⟩])
 .ret)
 .skip))))))))
 (.seq (.reg [(fa' 58 1 12), (ld' 59 1 58), ⟨(some 60), (.p (.build [(i6' 0), (u3' 0), (u3' 0), (i6' 0), (bo' false), (i6' 0)] [])), none⟩, (mv' 8 59), (so' 6 9 60), ⟨(some 10), (.p (.mv (.c (bo' true)))), none⟩])
 .ret)))))⟩
/- (*corral/hart.Hart).has -/
def af64 : AFunc := ⟨19, [.t 6],
 (.seq (.reg [⟨(some 6), (.p (.mv (.c (bo' false)))), none⟩])
 (.seq (.reg [(mv' 7 1), ⟨(some 8), (.p (.conv .u64 (.t 7))), none⟩, (mv' 9 2), ⟨(some 10), (.p (.conv .u64 (.t 9))), none⟩, ⟨(some 11), (.p (.bin 0 .add (.t 8) (.t 10))), none⟩, (mv' 12 0), (nc' 13 12), (fa' 14 44 13), (ld' 15 1 14), ⟨(some 16), (.p (.mx (.t 15) (.c (i6' 0)))), none⟩, ⟨(some 17), (.p (.conv .u64 (.t 16))), none⟩, ⟨(some 18), (.p (.bin 0 .leq (.t 11) (.t 17))), none⟩, (mv' 6 18)])
 .ret))⟩
/- (*corral/hart.Draft).inst -/
def af65 : AFunc := ⟨78, [.cell 6 true 6],
 (.seq (.reg [⟨(some 5), (.box 8 (.t 2)), none⟩, ⟨(some 6), (.newC [(i6' 0), (u3' 0), (u3' 0), (i6' 0), (bo' false), (i6' 0)]), none⟩])
 (.seq (.draw [((mv' 12 1), []), ((fa' 13 2 5), []), ((ld' 14 1 13), []), ((nc' 15 12), []), ((fa' 16 12 15), []), (⟨(some 17), (.p (.idxArr 32 1 (.t 16) (.t 14))), none⟩, []), ((ld' 18 1 17), []), ((mv' 19 1), []), ((fa' 20 3 5), []), ((ld' 21 1 20), []), ((nc' 22 19), []), ((fa' 23 12 22), []), (⟨(some 24), (.p (.idxArr 32 1 (.t 23) (.t 21))), none⟩, []), ((ld' 25 1 24), []), ((mv' 7 18), []), ((mv' 8 25), [])])
 (.seq (.seq (.reg [(fa' 26 0 5), (ld' 27 1 26), ⟨(some 28), (.call (.f 78) [(.t 27)]), none⟩])
 (.block 0 (.seq (.seq (.reg [⟨(some 30), (.p (.bin 0 .eql (.t 28) (.c (i6' 2)))), none⟩, (mv' 29 30)])
 (.cond (.t 29) .skip
 (.reg [⟨(some 31), (.p (.bin 0 .eql (.t 28) (.c (i6' 3)))), none⟩, (mv' 29 31)])))
 (.cond (.t 29) (.seq (.reg [(fa' 33 0 5), (ld' 34 1 33), (mv' 35 7), (mv' 36 8), ⟨(some 37), (.call (.f 89) [(.t 34), (.t 35), (.t 36)]), none⟩, (mv' 32 37), (ex' 38 0 32), (ex' 39 1 32), (mv' 9 38), (mv' 10 39)])
 (.seq (.draw [((lg' 40 8 5), []), ((mv' 41 1), []), ((nc' 42 41), []), ((fa' 43 11 42), []), ((ld' 44 1 43), []), ((mv' 45 7), []), ((mv' 46 8), []), (⟨(some 47), (.call (.f 75) [(.t 40), (.t 44), (.t 45), (.t 46)]), none⟩, []), ((mv' 11 47), [])])
 (.seq (.reg [(mv' 48 11), ⟨(some 49), (.p (.bin 0 .rem (.t 48) (.c (u3' 4)))), none⟩, ⟨(some 50), (.p (.bin 0 .neq (.t 49) (.c (u3' 0)))), none⟩, (mv' 51 50), ⟨(some 52), (.p (.mv (.t 9))), (some (51, true))⟩, ⟨(some 53), (.p (.mv (.t 52))), (some (51, true))⟩, ⟨(some 54), (.p (.mv (.t 10))), (some (53, false))⟩, ⟨(some 55), (.p (.un .not (.t 54))), (some (53, false))⟩, ⟨(some 56), (.pick (.t 53) (.c (bo' true)) (.t 55)), (some (51, true))⟩, ⟨(some 57), (.pick (.t 51) (.t 56) (.c (bo' false))), none⟩])
 (.cond (.t 57) (.seq (.reg [(mv' 58 0), (mv' 59 11), ⟨(some 60), (.call (.f 62) [(.t 58), (.c (u3' 0)), (.t 59)]), none⟩, (so' 6 6 60)])
 .ret)
 .skip))))
 (.seq (.seq (.reg [⟨(some 62), (.p (.bin 0 .eql (.t 28) (.c (i6' 4)))), none⟩, (mv' 61 62)])
 (.cond (.t 61) .skip
 (.seq (.reg [⟨(some 63), (.p (.bin 0 .eql (.t 28) (.c (i6' 5)))), none⟩, (mv' 61 63)])
 (.cond (.t 61) .skip
 (.reg [⟨(some 64), (.p (.bin 0 .eql (.t 28) (.c (i6' 6)))), none⟩, (mv' 61 64)])))))
 (.cond (.t 61) (.seq (.reg [(mv' 65 0), (mv' 66 1), (lg' 67 8 5), (mv' 68 7), ⟨(some 69), (.call (.f 90) [(.t 65), (.t 66), (.t 67), (.t 68)]), none⟩, (so' 6 6 69)])
 .ret)
 (.seq (.reg [⟨(some 71), (.p (.bin 0 .eql (.t 28) (.c (i6' 7)))), none⟩, (mv' 70 71)])
 (.cond (.t 70) (.seq (.reg [(mv' 72 0), (mv' 73 1), (lg' 74 8 5), ⟨(some 75), (.call (.f 91) [(.t 72), (.t 73), (.t 74)]), none⟩, (so' 6 6 75)])
 .ret)
 .skip))))))))
 (.seq (.reg [(mv' 76 0), ⟨(some 77), (.call (.f 92) [(.t 76)]), none⟩, (so' 6 6 77)])
 .ret))))⟩
/- (*corral/hart.Draft).list -/
def af66 : AFunc := ⟨14, [.t 4],
 (.seq (.reg [⟨(some 4), (.p (.mv (.c .nilPtr))), none⟩])
 (.seq (.seq (.reg [(mv' 5 1)])
 (.cond (.t 5) (.seq (.reg [(mv' 6 0), (nc' 7 6), (fa' 8 0 7), (fa' 9 6 8), (mv' 4 9)])
 .ret)
 .skip))
 (.seq (.reg [(mv' 10 0), (nc' 11 10), (fa' 12 0 11), (fa' 13 7 12), (mv' 4 13)])
 .ret)))⟩
/- corral/hart.Bells -/
def af67 : AFunc := ⟨21, [.t 2, .t 3],
 (.seq (.reg [⟨(some 2), (.p (.mv (.c (i6' 0)))), none⟩, ⟨(some 3), (.p (.mv (.c (bo' false)))), none⟩])
 (.seq (.reg [(mv' 5 0), ⟨(some 6), (.p (.bin 0 .sub (.t 5) (.c (u3' 1073741824)))), none⟩, (mv' 4 6)])
 (.seq (.reg [(mv' 7 4), ⟨(some 8), (.p (.bin 0 .quo (.t 7) (.c (u3' 4)))), none⟩, ⟨(some 9), (.p (.conv .i64 (.t 8))), none⟩, (mv' 10 0), ⟨(some 11), (.p (.bin 0 .geq (.t 10) (.c (u3' 1073741824)))), none⟩, (mv' 12 11), ⟨(some 13), (.p (.mv (.t 4))), (some (12, true))⟩, ⟨(some 14), (.p (.bin 0 .lss (.t 13) (.c (u3' 16)))), (some (12, true))⟩, ⟨(some 15), (.pick (.t 12) (.t 14) (.c (bo' false))), none⟩, (mv' 16 15), ⟨(some 17), (.p (.mv (.t 4))), (some (16, true))⟩, ⟨(some 18), (.p (.bin 0 .rem (.t 17) (.c (u3' 4)))), (some (16, true))⟩, ⟨(some 19), (.p (.bin 0 .eql (.t 18) (.c (u3' 0)))), (some (16, true))⟩, ⟨(some 20), (.pick (.t 16) (.t 19) (.c (bo' false))), none⟩, (mv' 2 9), (mv' 3 20)])
 .ret)))⟩
/- (*corral/seq.Machine).ring -/
def af68 : AFunc := ⟨25, [],
 (.seq (.reg [(mv' 7 0), (mv' 8 1), ⟨(some 9), (.call (.f 24) [(.t 7), (.t 8)]), none⟩, (mv' 6 9)])
 (.seq (.seq (.reg [(mv' 10 6), ⟨(some 11), (.p (.nilEq 0 false (.t 10) (.c .nilPtr))), none⟩])
 (.cond (.t 11) .ret
 .skip))
 (.seq (.reg [(mv' 12 6), (nc' 13 12), (fa' 14 0 13), (ld' 15 1 14), (nc' 16 15), (fa' 17 0 16), (mv' 18 2), ⟨(some 19), (.call (.f 72) [(.t 17), (.t 18)]), none⟩])
 (.seq (.reg [(mv' 20 6), ⟨(some 21), (.call (.f 57) [(.t 20)]), none⟩])
 (.cond (.t 21) (.reg [(mv' 22 6), (nc' 23 22), (fa' 24 3 23), ⟨none, (.store 1 (.t 24) (.c (bo' false))), none⟩])
 .skip)))))⟩
/- (*corral/mem.Memory).Store -/
def af69 : AFunc := ⟨23, [.t 8],
 (.seq (.reg [⟨(some 8), (.p (.mv (.c (bo' false)))), none⟩])
 (.seq (.seq (.reg [(mv' 9 0), (mv' 10 1), (mv' 11 2), ⟨(some 12), (.call (.f 22) [(.t 9), (.t 10), (.t 11)]), none⟩, ⟨(some 13), (.p (.un .not (.t 12))), none⟩])
 (.cond (.t 13) (.seq (.reg [⟨(some 8), (.p (.mv (.c (bo' false)))), none⟩])
 .ret)
 .skip))
 (.seq (.reg [(mv' 14 0), (nc' 15 14), (fa' 16 0 15), (ld' 17 1 16), (mv' 18 1), ⟨(some 19), (.p (.slice 1 (.t 17) (some (.t 18)) none)), none⟩, (mv' 20 2), (mv' 21 3), ⟨(some 22), (.call (.f 31) [(.t 19), (.t 20), (.t 21)]), none⟩])
 (.seq (.reg [⟨(some 8), (.p (.mv (.c (bo' true)))), none⟩])
 .ret))))⟩
/- (*corral/csr.File).All -/
def af70 : AFunc := ⟨44, [.t 2],
 (.seq (.reg [⟨(some 2), (.p (.mv (.c .nilSlice))), none⟩])
 (.seq (.draw [((mv' 3 0), []), ((nc' 4 3), []), ((fa' 5 1 4), []), ((ld' 6 1 5), []), ((mv' 7 0), []), ((nc' 8 7), []), ((fa' 9 2 8), []), ((ld' 10 1 9), []), ((mv' 11 0), []), ((nc' 12 11), []), ((fa' 13 3 12), []), ((ld' 14 1 13), []), ((mv' 15 0), []), ((nc' 16 15), []), ((fa' 17 4 16), []), ((ld' 18 1 17), []), ((mv' 19 0), []), ((nc' 20 19), []), ((fa' 21 5 20), []), ((ld' 22 1 21), []), ((mv' 23 0), []), ((nc' 24 23), []), ((fa' 25 6 24), []), ((ld' 26 1 25), []), ((mv' 27 0), []), ((nc' 28 27), []), ((fa' 29 7 28), []), ((ld' 30 1 29), []), ((mv' 31 0), []), ((nc' 32 31), []), ((fa' 33 8 32), []), ((ld' 34 1 33), []), ((mv' 35 0), []), ((nc' 36 35), []), ((fa' 37 9 36), []), ((ld' 38 1 37), []), ((mv' 39 0), []), ((nc' 40 39), []), ((fa' 41 10 40), []), ((ld' 42 1 41), []), (⟨(some 43), (.mkArr 1 10 [(u3' 0)] [(0, 1, (.t 6)), (1, 1, (.t 10)), (2, 1, (.t 14)), (3, 1, (.t 18)), (4, 1, (.t 22)), (5, 1, (.t 26)), (6, 1, (.t 30)), (7, 1, (.t 34)), (8, 1, (.t 38)), (9, 1, (.t 42))]), none⟩, []), ((mv' 2 43), [])])
 .ret))⟩
/- (*corral/csr.File).at -/
def af71 : AFunc := ⟨56, [.t 4],
 (.seq (.reg [⟨(some 4), (.p (.mv (.c .nilPtr))), none⟩])
 (.seq (.seq (.reg [(mv' 5 1)])
 (.block 0 (.seq (.reg [⟨(some 7), (.p (.bin 0 .eql (.t 5) (.c (i6' 384)))), none⟩, (mv' 6 7)])
 (.cond (.t 6) (.seq (.reg [(mv' 8 0), (nc' 9 8), (fa' 10 1 9), (mv' 4 10)])
 .ret)
 (.seq (.reg [⟨(some 12), (.p (.bin 0 .eql (.t 5) (.c (i6' 768)))), none⟩, (mv' 11 12)])
 (.cond (.t 11) (.seq (.reg [(mv' 13 0), (nc' 14 13), (fa' 15 2 14), (mv' 4 15)])
 .ret)
 (.seq (.reg [⟨(some 17), (.p (.bin 0 .eql (.t 5) (.c (i6' 772)))), none⟩, (mv' 16 17)])
 (.cond (.t 16) (.seq (.reg [(mv' 18 0), (nc' 19 18), (fa' 20 3 19), (mv' 4 20)])
 .ret)
 (.seq (.reg [⟨(some 22), (.p (.bin 0 .eql (.t 5) (.c (i6' 773)))), none⟩, (mv' 21 22)])
 (.cond (.t 21) (.seq (.reg [(mv' 23 0), (nc' 24 23), (fa' 25 4 24), (mv' 4 25)])
 .ret)
 (.seq (.reg [⟨(some 27), (.p (.bin 0 .eql (.t 5) (.c (i6' 832)))), none⟩, (mv' 26 27)])
 (.cond (.t 26) (.seq (.reg [(mv' 28 0), (nc' 29 28), (fa' 30 5 29), (mv' 4 30)])
 .ret)
 (.seq (.reg [⟨(some 32), (.p (.bin 0 .eql (.t 5) (.c (i6' 833)))), none⟩, (mv' 31 32)])
 (.cond (.t 31) (.seq (.reg [(mv' 33 0), (nc' 34 33), (fa' 35 6 34), (mv' 4 35)])
 .ret)
 (.seq (.reg [⟨(some 37), (.p (.bin 0 .eql (.t 5) (.c (i6' 834)))), none⟩, (mv' 36 37)])
 (.cond (.t 36) (.seq (.reg [(mv' 38 0), (nc' 39 38), (fa' 40 7 39), (mv' 4 40)])
 .ret)
 (.seq (.reg [⟨(some 42), (.p (.bin 0 .eql (.t 5) (.c (i6' 835)))), none⟩, (mv' 41 42)])
 (.cond (.t 41) (.seq (.reg [(mv' 43 0), (nc' 44 43), (fa' 45 8 44), (mv' 4 45)])
 .ret)
 (.seq (.reg [⟨(some 47), (.p (.bin 0 .eql (.t 5) (.c (i6' 836)))), none⟩, (mv' 46 47)])
 (.cond (.t 46) (.seq (.reg [(mv' 48 0), (nc' 49 48), (fa' 50 9 49), (mv' 4 50)])
 .ret)
 (.seq (.reg [⟨(some 52), (.p (.bin 0 .eql (.t 5) (.c (i6' 3860)))), none⟩, (mv' 51 52)])
 (.cond (.t 51) (.seq (.reg [(mv' 53 0), (nc' 54 53), (fa' 55 10 54), (mv' 4 55)])
 .ret)
 .skip))))))))))))))))))))))
 (.seq (.reg [⟨(some 4), (.p (.mv (.c .nilPtr))), none⟩])
 .ret)))⟩
/- (*corral/csr.File).Bell -/
def af72 : AFunc := ⟨11, [],
 (.seq (.reg [(mv' 4 0), (nc' 5 4), (fa' 6 9 5), ⟨none, (.store 1 (.t 6) (.c (u3' 0))), none⟩])
 (.seq (.reg [(mv' 7 1)])
 (.cond (.t 7) (.reg [(mv' 8 0), (nc' 9 8), (fa' 10 9 9), ⟨none, (.store 1 (.t 10) (.c (u3' 8))), none⟩])
 .skip)))⟩
/- corral/word.Bits -/
def af73 : AFunc := ⟨23, [.t 6],
 (.seq (.reg [⟨(some 6), (.p (.mv (.c (u3' 0)))), none⟩])
 (.seq (.seq (.reg [(mv' 7 1), ⟨(some 8), (.p (.bin 0 .lss (.t 7) (.c (i6' 0)))), none⟩, (mv' 9 8), ⟨(some 10), (.p (.mv (.t 1))), (some (9, false))⟩, ⟨(some 11), (.p (.bin 0 .geq (.t 10) (.c (i6' 32)))), (some (9, false))⟩, ⟨(some 12), (.pick (.t 9) (.c (bo' true)) (.t 11)), none⟩, (mv' 13 12), ⟨(some 14), (.p (.mv (.t 2))), (some (13, false))⟩, ⟨(some 15), (.p (.bin 0 .lss (.t 14) (.c (i6' 1)))), (some (13, false))⟩, ⟨(some 16), (.pick (.t 13) (.c (bo' true)) (.t 15)), none⟩])
 (.cond (.t 16) (.seq (.reg [⟨(some 6), (.p (.mv (.c (u3' 0)))), none⟩])
 .ret)
 .skip))
 (.seq (.draw [((mv' 17 0), []), ((mv' 18 1), []), (⟨(some 19), (.p (.bin 0 .shr (.t 17) (.t 18))), none⟩, []), ((mv' 20 2), []), (⟨(some 21), (.call (.f 40) [(.t 20)]), none⟩, []), (⟨(some 22), (.p (.bin 0 .and (.t 19) (.t 21))), none⟩, []), ((mv' 6 22), [])])
 .ret)))⟩
/- (*corral/csr.File).Trap -/
def af74 : AFunc := ⟨45, [.t 8],
 (.seq (.reg [⟨(some 8), (.p (.mv (.c (u3' 0)))), none⟩])
 (.seq (.reg [(mv' 10 0), ⟨(some 11), (.call (.f 88) [(.t 10)]), none⟩, ⟨(some 12), (.p (.conv .u32 (.t 11))), none⟩, (mv' 9 12)])
 (.seq (.reg [(mv' 13 0), (mv' 14 0), (mv' 15 0), (mv' 16 3), ⟨(some 17), (.p (.bin 0 .and (.t 16) (.c (u3' 4294967292)))), none⟩, (mv' 18 1), (mv' 19 2), (nc' 20 13), (fa' 21 6 20), (so' 1 21 17), (nc' 22 14), (fa' 23 7 22), (so' 1 23 18), (nc' 24 15), (fa' 25 8 24), (so' 1 25 19)])
 (.seq (.reg [(mv' 26 0), (mv' 27 0), (nc' 28 27), (fa' 29 2 28), (ld' 30 1 29), ⟨(some 31), (.p (.bin 0 .and (.t 30) (.c (u3' 8)))), none⟩, ⟨(some 32), (.p (.bin 0 .shl (.t 31) (.c (.int .u64 (.lit 4))))), none⟩, (mv' 33 9), ⟨(some 34), (.p (.bin 0 .shl (.t 33) (.c (.int .u64 (.lit 11))))), none⟩, ⟨(some 35), (.p (.bin 0 .or (.t 32) (.t 34))), none⟩, (nc' 36 26), (fa' 37 2 36), (so' 1 37 35)])
 (.seq (.reg [(mv' 38 0), (nc' 39 38), (fa' 40 0 39), ⟨none, (.store 1 (.t 40) (.c (bo' false))), none⟩])
 (.seq (.reg [(mv' 41 0), (nc' 42 41), (fa' 43 4 42), (ld' 44 1 43), (mv' 8 44)])
 .ret))))))⟩
/- corral/alu.Next -/
def af75 : AFunc := ⟨41, [.t 8],
 (.seq (.reg [⟨(some 4), (.box 8 (.t 0)), none⟩, ⟨(some 8), (.p (.mv (.c (u3' 0)))), none⟩])
 (.seq (.reg [(fa' 12 0 4), (ld' 13 1 12), (mv' 14 2), (mv' 15 3), ⟨(some 16), (.call (.f 89) [(.t 13), (.t 14), (.t 15)]), none⟩, (mv' 11 16), (ex' 17 0 11), (ex' 18 1 11), (mv' 9 17), (mv' 10 18)])
 (.seq (.block 0 (.seq (.reg [(fa' 20 0 4), (ld' 21 1 20), ⟨(some 22), (.p (.bin 0 .eql (.t 21) (.c (i6' 4)))), none⟩, (mv' 19 22)])
 (.cond (.t 19) (.seq (.reg [(mv' 23 2), (fa' 24 5 4), (ld' 25 1 24), ⟨(some 26), (.p (.bin 0 .add (.t 23) (.t 25))), none⟩, ⟨(some 27), (.p (.bin 0 .andNot (.t 26) (.c (u3' 1)))), none⟩, (mv' 8 27)])
 .ret)
 (.seq (.reg [(fa' 29 0 4), (ld' 30 1 29), ⟨(some 31), (.p (.bin 0 .eql (.t 30) (.c (i6' 3)))), none⟩, (mv' 32 31), ⟨(some 33), (.p (.mv (.t 9))), (some (32, false))⟩, ⟨(some 34), (.pick (.t 32) (.c (bo' true)) (.t 33)), none⟩, (mv' 28 34)])
 (.cond (.t 28) (.seq (.reg [(mv' 35 1), (fa' 36 5 4), (ld' 37 1 36), ⟨(some 38), (.p (.bin 0 .add (.t 35) (.t 37))), none⟩, (mv' 8 38)])
 .ret)
 .skip)))))
 (.seq (.reg [(mv' 39 1), ⟨(some 40), (.p (.bin 0 .add (.t 39) (.c (u3' 4)))), none⟩, (mv' 8 40)])
 .ret))))⟩
/- corral/alu.Result -/
def af76 : AFunc := ⟨44, [.t 8, .t 9],
 (.seq (.reg [⟨(some 4), (.box 8 (.t 0)), none⟩, ⟨(some 8), (.p (.mv (.c (u3' 0)))), none⟩, ⟨(some 9), (.p (.mv (.c (bo' false)))), none⟩])
 (.seq (.seq (.reg [(fa' 10 0 4), (ld' 11 1 10)])
 (.block 0 (.seq (.reg [⟨(some 13), (.p (.bin 0 .eql (.t 11) (.c (i6' 1)))), none⟩, (mv' 12 13)])
 (.cond (.t 12) (.seq (.reg [(fa' 14 5 4), (ld' 15 1 14), (mv' 8 15), ⟨(some 9), (.p (.mv (.c (bo' true)))), none⟩])
 .ret)
 (.seq (.reg [⟨(some 17), (.p (.bin 0 .eql (.t 11) (.c (i6' 2)))), none⟩, (mv' 16 17)])
 (.cond (.t 16) (.seq (.reg [(mv' 18 1), (fa' 19 5 4), (ld' 20 1 19), ⟨(some 21), (.p (.bin 0 .add (.t 18) (.t 20))), none⟩, (mv' 8 21), ⟨(some 9), (.p (.mv (.c (bo' true)))), none⟩])
 .ret)
 (.seq (.seq (.reg [⟨(some 23), (.p (.bin 0 .eql (.t 11) (.c (i6' 3)))), none⟩, (mv' 22 23)])
 (.cond (.t 22) .skip
 (.reg [⟨(some 24), (.p (.bin 0 .eql (.t 11) (.c (i6' 4)))), none⟩, (mv' 22 24)])))
 (.cond (.t 22) (.seq (.reg [(mv' 25 1), ⟨(some 26), (.p (.bin 0 .add (.t 25) (.c (u3' 4)))), none⟩, (mv' 8 26), ⟨(some 9), (.p (.mv (.c (bo' true)))), none⟩])
 .ret)
 .skip))))))))
 (.seq (.seq (.reg [(fa' 27 0 4), (ld' 28 1 27), ⟨(some 29), (.p (.bin 0 .geq (.t 28) (.c (i6' 19)))), none⟩, (mv' 30 29), ⟨(some 31), (.p (.fieldAddr 0 (.t 4))), (some (30, true))⟩, ⟨(some 32), (.load false 1 (.t 31)), (some (30, true))⟩, ⟨(some 33), (.p (.bin 0 .leq (.t 32) (.c (i6' 27)))), (some (30, true))⟩, ⟨(some 34), (.pick (.t 30) (.t 33) (.c (bo' false))), none⟩])
 (.cond (.t 34) (.reg [(fa' 35 5 4), (ld' 36 1 35), (mv' 3 36)])
 .skip))
 (.seq (.reg [(fa' 37 0 4), (ld' 38 1 37), (mv' 39 2), (mv' 40 3), ⟨(some 41), (.call (.f 93) [(.t 38), (.t 39), (.t 40)]), none⟩, (ex' 42 0 41), (ex' 43 1 41), (mv' 8 42), (mv' 9 43)])
 .ret))))⟩
/- (*corral/hart.Hart).set -/
def af77 : AFunc := ⟨14, [],
 (.seq (.reg [(mv' 6 1), ⟨(some 7), (.p (.bin 0 .neq (.t 6) (.c (i6' 0)))), none⟩])
 (.cond (.t 7) (.reg [(mv' 8 0), (mv' 9 1), (mv' 10 2), (nc' 11 8), (fa' 12 12 11), ⟨(some 13), (.p (.idxArr 32 1 (.t 12) (.t 9))), none⟩, (so' 1 13 10)])
 .skip))⟩
/- corral/isa.Kind -/
def af78 : AFunc := ⟨12, [.t 2],
 (.seq (.reg [⟨(some 2), (.p (.mv (.c (i6' 0)))), none⟩])
 (.seq (.reg [(mv' 6 0), ⟨(some 7), (.call (.f 94) [(.t 6)]), none⟩, (mv' 5 7), (ex' 8 0 5), (ex' 9 1 5), ⟨(some 3), (.newC [(i6' 0), (.str ⟨#[]⟩), (i6' 0), (u3' 0), (u3' 0), (u3' 0), (i6' 0)]), none⟩, (so' 7 3 8), (mv' 4 9)])
 (.seq (.reg [(fa' 10 6 3), (ld' 11 1 10), (mv' 2 11)])
 .ret)))⟩
/- (*corral/hart.Hart).access -/
def af79 : AFunc := ⟨81, [.cell 8 true 7],
 (.seq (.reg [⟨(some 5), (.box 8 (.t 1)), none⟩, ⟨(some 6), (.box 13 (.t 2)), none⟩, ⟨(some 8), (.newC [(i6' 0), (u3' 0), (i6' 0), (u3' 0), (bo' false), (bo' false), (bo' false)]), none⟩])
 (.seq (.draw [((fa' 10 4 6), []), ((ld' 11 1 10), [4]), ((fa' 12 0 5), []), ((ld' 13 1 12), []), (⟨(some 14), (.call (.f 95) [(.t 13)]), none⟩, []), (⟨(some 15), (.p (.build [(i6' 0), (u3' 0), (i6' 0), (u3' 0), (bo' false), (bo' false), (bo' false)] [(1, 1, (.t 11)), (2, 1, (.t 14))])), none⟩, []), (⟨(some 9), (.newC [(i6' 0), (u3' 0), (i6' 0), (u3' 0), (bo' false), (bo' false), (bo' false)]), none⟩, []), ((so' 7 9 15), [])])
 (.seq (.seq (.reg [(fa' 16 0 5), (ld' 17 1 16), ⟨(some 18), (.call (.f 78) [(.t 17)]), none⟩])
 (.block 0 (.seq (.reg [⟨(some 20), (.p (.bin 0 .eql (.t 18) (.c (i6' 4)))), none⟩, (mv' 19 20)])
 (.cond (.t 19) (.seq (.reg [(fa' 21 0 9), ⟨none, (.store 1 (.t 21) (.c (i6' 1))), none⟩])
 (.seq (.draw [((mv' 22 0), []), ((fa' 23 1 5), []), ((ld' 24 1 23), [7]), ((fa' 25 0 5), []), ((ld' 26 1 25), []), ((fa' 27 5 6), []), ((ld' 28 1 27), []), (⟨(some 29), (.call (.f 96) [(.t 26), (.t 28)]), none⟩, []), (⟨(some 30), (.call (.f 77) [(.t 22), (.t 24), (.t 29)]), none⟩, [])])
 (.seq (.reg [(lg' 31 7 9), (so' 7 8 31)])
 .ret)))
 (.seq (.reg [⟨(some 33), (.p (.bin 0 .eql (.t 18) (.c (i6' 5)))), none⟩, (mv' 32 33)])
 (.cond (.t 32) (.seq (.reg [(fa' 34 0 5), (ld' 35 1 34), (mv' 36 3), ⟨(some 37), (.call (.f 97) [(.t 35), (.t 36)]), none⟩, (fa' 38 0 9), ⟨none, (.store 1 (.t 38) (.c (i6' 2))), none⟩, (fa' 39 3 9), (so' 1 39 37)])
 (.seq (.reg [(lg' 40 7 9), (so' 7 8 40)])
 .ret))
 .skip))))))
 (.seq (.seq (.reg [(fa' 41 0 5), (ld' 42 1 41), ⟨(some 43), (.p (.bin 0 .neq (.t 42) (.c (i6' 60)))), none⟩])
 (.cond (.t 43) (.seq (.reg [(fa' 44 0 9), ⟨none, (.store 1 (.t 44) (.c (i6' 3))), none⟩])
 (.seq (.reg [(fa' 46 0 5), (ld' 47 1 46), (fa' 48 5 6), (ld' 49 1 48), (mv' 50 3), ⟨(some 51), (.call (.f 98) [(.t 47), (.t 49), (.t 50)]), none⟩, (mv' 45 51), (ex' 52 0 45), (ex' 53 1 45), (fa' 54 3 9), (so' 1 54 52)])
 (.seq (.reg [(mv' 55 0), (fa' 56 1 5), (ld' 57 1 56), (fa' 58 5 6), (ld' 59 1 58), ⟨(some 60), (.call (.f 77) [(.t 55), (.t 57), (.t 59)]), none⟩])
 (.seq (.reg [(lg' 61 7 9), (so' 7 8 61)])
 .ret))))
 .skip))
 (.seq (.seq (.reg [(fa' 62 10 6), (ld' 63 1 62), ⟨(some 64), (.p (.un .not (.t 63))), none⟩])
 (.cond (.t 64) (.seq (.reg [(mv' 65 0), (fa' 66 1 5), (ld' 67 1 66), ⟨(some 68), (.call (.f 77) [(.t 65), (.t 67), (.c (u3' 1))]), none⟩])
 (.seq (.reg [⟨(some 69), (.p (.build [(i6' 0), (u3' 0), (i6' 0), (u3' 0), (bo' false), (bo' false), (bo' false)] [])), none⟩, (so' 7 8 69)])
 .ret))
 .skip))
 (.seq (.reg [(fa' 70 0 5), (ld' 71 1 70), (mv' 72 3), ⟨(some 73), (.call (.f 97) [(.t 71), (.t 72)]), none⟩, (fa' 74 0 9), ⟨none, (.store 1 (.t 74) (.c (i6' 2))), none⟩, (fa' 75 3 9), (so' 1 75 73)])
 (.seq (.reg [(mv' 76 0), (fa' 77 1 5), (ld' 78 1 77), ⟨(some 79), (.call (.f 77) [(.t 76), (.t 78), (.c (u3' 0))]), none⟩])
 (.seq (.reg [(lg' 80 7 9), (so' 7 8 80)])
 .ret))))))))⟩
/- (*corral/hart.Hart).other -/
def af80 : AFunc := ⟨84, [.cell 10 true 7, .t 11],
 (.seq (.reg [⟨(some 6), (.box 8 (.t 1)), none⟩, ⟨(some 7), (.box 13 (.t 2)), none⟩, ⟨(some 10), (.newC [(i6' 0), (u3' 0), (i6' 0), (u3' 0), (bo' false), (bo' false), (bo' false)]), none⟩, ⟨(some 11), (.p (.mv (.c (u3' 0)))), none⟩])
 (.seq (.seq (.reg [(fa' 16 0 6), (ld' 17 1 16)])
 (.block 0 (.seq (.reg [⟨(some 19), (.p (.bin 0 .eql (.t 17) (.c (i6' 38)))), none⟩, (mv' 18 19)])
 (.cond (.t 18) (.seq (.reg [(fa' 20 5 6), (ld' 21 1 20), ⟨(some 22), (.p (.build [(i6' 0), (u3' 0), (i6' 0), (u3' 0), (bo' false), (bo' false), (bo' false)] [(0, 1, (.c (i6' 4))), (3, 1, (.t 21))])), none⟩, (mv' 23 4), (so' 7 10 22), (mv' 11 23)])
 .ret)
 (.seq (.reg [⟨(some 25), (.p (.bin 0 .eql (.t 17) (.c (i6' 39)))), none⟩, (mv' 24 25)])
 (.cond (.t 24) (.seq (.reg [⟨(some 26), (.p (.build [(i6' 0), (u3' 0), (i6' 0), (u3' 0), (bo' false), (bo' false), (bo' false)] [(4, 1, (.c (bo' true)))])), none⟩, (mv' 27 4), (so' 7 10 26), (mv' 11 27)])
 .ret)
 (.seq (.reg [⟨(some 29), (.p (.bin 0 .eql (.t 17) (.c (i6' 44)))), none⟩, (mv' 28 29)])
 (.cond (.t 28) (.seq (.reg [⟨(some 30), (.p (.build [(i6' 0), (u3' 0), (i6' 0), (u3' 0), (bo' false), (bo' false), (bo' false)] [(5, 1, (.c (bo' true)))])), none⟩, (mv' 31 4), (so' 7 10 30), (mv' 11 31)])
 .ret)
 (.seq (.reg [⟨(some 33), (.p (.bin 0 .eql (.t 17) (.c (i6' 43)))), none⟩, (mv' 32 33)])
 (.cond (.t 32) (.seq (.reg [⟨(some 34), (.p (.build [(i6' 0), (u3' 0), (i6' 0), (u3' 0), (bo' false), (bo' false), (bo' false)] [(6, 1, (.c (bo' true)))])), none⟩, (mv' 35 4), (so' 7 10 34), (mv' 11 35)])
 .ret)
 (.seq (.reg [⟨(some 37), (.p (.bin 0 .eql (.t 17) (.c (i6' 42)))), none⟩, (mv' 36 37)])
 (.cond (.t 36) (.seq (.reg [⟨(some 38), (.p (.build [(i6' 0), (u3' 0), (i6' 0), (u3' 0), (bo' false), (bo' false), (bo' false)] [])), none⟩, (mv' 39 0), (nc' 40 39), (fa' 41 0 40), ⟨(some 42), (.call (.f 99) [(.t 41)]), none⟩, (so' 7 10 38), (mv' 11 42)])
 .ret)
 .skip))))))))))))
 (.seq (.seq (.reg [(fa' 43 4 6), (ld' 44 1 43), ⟨(some 45), (.p (.bin 0 .eql (.t 44) (.c (i6' 836)))), none⟩])
 (.cond (.t 45) (.draw [((mv' 46 0), []), ((nc' 47 46), []), ((fa' 48 0 47), []), ((fa' 49 5 7), []), ((ld' 50 1 49), []), (⟨(some 51), (.p (.bin 0 .neq (.t 50) (.c (u3' 0)))), none⟩, []), (⟨(some 52), (.call (.f 72) [(.t 48), (.t 51)]), none⟩, [])])
 .skip))
 (.seq (.draw [((mv' 54 0), []), ((nc' 55 54), []), ((fa' 56 0 55), []), ((fa' 57 4 6), []), ((ld' 58 1 57), []), (⟨(some 59), (.call (.f 52) [(.t 56), (.t 58)]), none⟩, []), ((mv' 53 59), []), ((ex' 60 0 53), []), ((ex' 61 1 53), []), ((mv' 12 60), []), ((mv' 13 61), [])])
 (.seq (.reg [(lg' 63 8 6), (mv' 64 12), (mv' 65 3), ⟨(some 66), (.call (.f 100) [(.t 63), (.t 64), (.t 65)]), none⟩, (mv' 62 66), (ex' 67 0 62), (ex' 68 1 62), (mv' 14 67), (mv' 15 68)])
 (.seq (.seq (.reg [(mv' 69 15)])
 (.cond (.t 69) (.draw [((mv' 70 0), []), ((nc' 71 70), []), ((fa' 72 0 71), []), ((fa' 73 4 6), []), ((ld' 74 1 73), []), ((mv' 75 14), []), (⟨(some 76), (.call (.f 101) [(.t 72), (.t 74), (.t 75)]), none⟩, [])])
 .skip))
 (.seq (.reg [(mv' 77 0), (fa' 78 1 6), (ld' 79 1 78), (mv' 80 12), ⟨(some 81), (.call (.f 77) [(.t 77), (.t 79), (.t 80)]), none⟩])
 (.seq (.reg [⟨(some 82), (.p (.build [(i6' 0), (u3' 0), (i6' 0), (u3' 0), (bo' false), (bo' false), (bo' false)] [])), none⟩, (mv' 83 4), (so' 7 10 82), (mv' 11 83)])
 .ret))))))))⟩
end Go.Proofs.YtlgfmmccnilkmaaGreatDoor.seqSums

/- Functions that SeqPages comes to, as the symbolic machine runs them. No condition. -/
import Derived.Test.YtlgfmmccnilkmaaGreatDoorRows
import Derived.Test.YtlgfmmccnilkmaaGreatDoorSyDoor
import Derived.Test.YtlgfmmccnilkmaaGreatDoorSyUse
namespace Go.Proofs.YtlgfmmccnilkmaaGreatDoor.seqPages
open Go.Sx
set_option linter.unusedVariables false
set_option linter.unusedSimpArgs false
set_option maxRecDepth 1000000
def mv' (a b : Nat) : AOper := ⟨some a, .p (.mv (.t b)), none⟩
def fa' (a k b : Nat) : AOper := ⟨some a, .p (.fieldAddr k (.t b)), none⟩
def ld' (a n b : Nat) : AOper := ⟨some a, .load false n (.t b), none⟩
def lg' (a n b : Nat) : AOper := ⟨some a, .load true n (.t b), none⟩
def nc' (a b : Nat) : AOper := ⟨some a, .p (.nilCheck (.t b)), none⟩
def ex' (a i b : Nat) : AOper := ⟨some a, .p (.extract i (.t b)), none⟩
def so' (n a b : Nat) : AOper := ⟨none, .store n (.t a) (.t b), none⟩
def i6' (n : Int) : SV := .int .i64 (.lit n)
def u3' (n : Int) : SV := .int .u32 (.lit n)
def bo' (b : Bool) : SV := .bool (.lit b)
def w' (a : Nat) (o : AOp) : AOper := ⟨some a, o, none⟩
def gt' (a g : Nat) (o : AOp) : AOper := ⟨some a, o, some (g, true)⟩
def gf' (a g : Nat) (o : AOp) : AOper := ⟨some a, o, some (g, false)⟩
/- corral/corrallaw11.SeqPages -/
def af4 : AFunc := ⟨129, [.t 6],
 (.seq (.reg [(w' 6 (.p (.mv (.c (bo' false)))))])
 (.seq (.reg [(w' 16 (.call (.f 5) [])), (mv' 7 16)])
 (.seq (.seq (.reg [(mv' 17 7), (w' 18 (.p (.un .not (.t 17))))])
 (.cond (.t 18) (.seq (.reg [(w' 6 (.p (.mv (.c (bo' false)))))])
 .ret)
 .skip))
 (.seq (.reg [(mv' 19 0), (w' 20 (.p (.bin 0 .and (.t 19) (.c (u3' 1023))))), (w' 21 (.p (.bin 0 .or (.t 20) (.c (u3' 1024))))), (mv' 0 21)])
 (.seq (.reg [(mv' 22 2), (w' 23 (.p (.bin 0 .and (.t 22) (.c (u3' 508))))), (mv' 2 23)])
 (.seq (.reg [(mv' 24 2), (w' 25 (.call (.f 7) [(.c (i6' 13)), (.c (i6' 3)), (.c (i6' 2)), (.c (i6' 0)), (.t 24)])), (mv' 8 25)])
 (.seq (.reg [(w' 9 (.p (.mv (.c (i6' 2)))))])
 (.seq (.reg [(w' 10 (.p (.mv (.c (u3' 13)))))])
 (.seq (.seq (.reg [(mv' 26 1)])
 (.cond (.t 26) (.seq (.reg [(mv' 27 2), (w' 28 (.call (.f 7) [(.c (i6' 18)), (.c (i6' 0)), (.c (i6' 2)), (.c (i6' 1)), (.t 27)])), (mv' 8 28)])
 (.seq (.reg [(w' 9 (.p (.mv (.c (i6' 3)))))])
 (.reg [(w' 10 (.p (.mv (.c (u3' 15)))))])))
 .skip))
 (.seq (.reg [(w' 29 (.mkSl 1 4 [(u3' 0)] (.c (i6' 3072)) (.c (i6' 3072)))), (mv' 11 29)])
 (.seq (.reg [(mv' 30 11), (w' 31 (.call (.f 7) [(.c (i6' 1)), (.c (i6' 1)), (.c (i6' 0)), (.c (i6' 0)), (.c (u3' 2147483648))])), (w' 32 (.call (.f 7) [(.c (i6' 19)), (.c (i6' 1)), (.c (i6' 1)), (.c (i6' 0)), (.c (u3' 2))])), (w' 33 (.call (.f 15) [(.c (i6' 45)), (.c (i6' 0)), (.c (i6' 384)), (.c (i6' 1)), (.c (u3' 0))])), (w' 34 (.call (.f 7) [(.c (i6' 19)), (.c (i6' 1)), (.c (i6' 0)), (.c (i6' 0)), (.c (u3' 64))])), (w' 35 (.call (.f 15) [(.c (i6' 45)), (.c (i6' 0)), (.c (i6' 833)), (.c (i6' 1)), (.c (u3' 0))])), (w' 36 (.call (.f 7) [(.c (i6' 42)), (.c (i6' 0)), (.c (i6' 0)), (.c (i6' 0)), (.c (u3' 0))])), (w' 37 (.mkArr 1 6 [(u3' 0)] [(0, 1, (.t 31)), (1, 1, (.t 32)), (2, 1, (.t 33)), (3, 1, (.t 34)), (4, 1, (.t 35)), (5, 1, (.t 36))])), (w' 38 (.copy 1 (.t 30) (.t 37)))])
 (.seq (.draw [((mv' 39 11), []), ((w' 40 (.p (.slice 1 (.t 39) (some (.c (i6' 16))) none))), []), ((w' 41 (.call (.f 7) [(.c (i6' 1)), (.c (i6' 2)), (.c (i6' 0)), (.c (i6' 0)), (.c (u3' 4096))])), []), ((mv' 42 8), []), ((w' 43 (.call (.f 7) [(.c (i6' 40)), (.c (i6' 0)), (.c (i6' 0)), (.c (i6' 0)), (.c (u3' 0))])), []), ((w' 44 (.mkArr 1 3 [(u3' 0)] [(0, 1, (.t 41)), (1, 1, (.t 42)), (2, 1, (.t 43))])), []), ((w' 45 (.copy 1 (.t 40) (.t 44))), [])])
 (.seq (.reg [(mv' 46 11), (w' 47 (.mkArr 1 1 [(u3' 0)] [(0, 1, (.c (u3' 1)))])), (w' 48 (.call (.f 16) [(.c (u3' 2)), (.t 47)])), (w' 49 (.p (.idxSl 1 (.t 46) (.c (i6' 2048))))), (so' 1 49 48)])
 (.seq (.reg [(mv' 50 11), (mv' 51 0), (w' 52 (.p (.idxSl 1 (.t 50) (.c (i6' 2049))))), (so' 1 52 51)])
 (.seq (.reg [(mv' 53 11), (w' 54 (.mkArr 1 5 [(u3' 0)] [(0, 1, (.c (u3' 1))), (1, 1, (.c (u3' 2))), (2, 1, (.c (u3' 8))), (3, 1, (.c (u3' 16))), (4, 1, (.c (u3' 64)))])), (w' 55 (.call (.f 16) [(.c (u3' 0)), (.t 54)])), (w' 56 (.p (.idxSl 1 (.t 53) (.c (i6' 2048))))), (so' 1 56 55)])
 (.seq (.reg [(mv' 58 11), (w' 59 (.call (.f 8) [(.c (i6' 1)), (.c (i6' 12288)), (.t 58)])), (mv' 57 59), (ex' 60 0 57), (ex' 61 1 57), (mv' 12 60), (mv' 13 61)])
 (.seq (.seq (.reg [(mv' 62 12), (w' 63 (.p (.nilEq 0 false (.t 62) (.c .nilPtr)))), (mv' 64 63), (gf' 65 64 (.p (.mv (.t 13)))), (gf' 66 64 (.ifEq true true [15, 17, 27, 36, 40, 58, 101, 102, 132, 134, 140, 198, 208] (.t 65) (.c .nilIface))), (w' 67 (.pick (.t 64) (.c (bo' true)) (.t 66)))])
 (.cond (.t 67) (.seq (.reg [(w' 6 (.p (.mv (.c (bo' false)))))])
 .ret)
 .skip))
 (.seq (.reg [(mv' 68 12), (w' 69 (.mkArr 1 8 [(i6' 0)] [(0, 1, (.c (i6' 0))), (1, 1, (.c (i6' 0))), (2, 1, (.c (i6' 0))), (3, 1, (.c (i6' 0))), (4, 1, (.c (i6' 0))), (5, 1, (.c (i6' 0))), (6, 1, (.c (i6' 0))), (7, 1, (.c (i6' 0)))])), (w' 70 (.call (.f 9) [(.t 68), (.t 69)])), (mv' 14 70)])
 (.seq (.seq (.reg [(mv' 71 14), (w' 72 (.p (.lenS (.t 71)))), (w' 73 (.p (.bin 0 .neq (.t 72) (.c (i6' 8))))), (mv' 74 73), (gf' 75 74 (.p (.mv (.t 7)))), (gf' 76 74 (.p (.un .not (.t 75)))), (w' 77 (.pick (.t 74) (.c (bo' true)) (.t 76)))])
 (.cond (.t 77) (.seq (.reg [(w' 6 (.p (.mv (.c (bo' false)))))])
 .ret)
 .skip))
 (.seq (.reg [(mv' 78 14), (w' 79 (.p (.idxSl 13 (.t 78) (.c (i6' 7))))), (lg' 80 13 79), (w' 15 (.newC [(i6' 0), (u3' 0), (u3' 0), (u3' 0), (u3' 0), (u3' 0), .nilSlice, .nilSlice, (u3' 0), (u3' 0), (bo' false), (i6' 0), (i6' 0)])), (so' 13 15 80)])
 (.seq (.seq (.reg [(mv' 81 1)])
 (.cond (.t 81) (.seq (.reg [(fa' 82 0 15), (ld' 83 1 82), (w' 84 (.p (.bin 0 .eql (.t 83) (.c (i6' 2))))), (mv' 85 84), (gt' 86 85 (.p (.fieldAddr 8 (.t 15)))), (gt' 87 85 (.load false 1 (.t 86))), (gt' 88 85 (.p (.mv (.t 10)))), (gt' 89 85 (.p (.bin 0 .eql (.t 87) (.t 88)))), (w' 90 (.pick (.t 85) (.t 89) (.c (bo' false)))), (mv' 91 90), (gt' 92 91 (.p (.fieldAddr 9 (.t 15)))), (gt' 93 91 (.load false 1 (.t 92))), (gt' 94 91 (.p (.mv (.t 2)))), (gt' 95 91 (.p (.bin 0 .add (.c (u3' 4096)) (.t 94)))), (gt' 96 91 (.p (.bin 0 .eql (.t 93) (.t 95)))), (w' 97 (.pick (.t 91) (.t 96) (.c (bo' false)))), (mv' 98 97), (gt' 99 98 (.p (.mv (.t 9)))), (gt' 100 98 (.p (.bin 0 .eql (.t 99) (.c (i6' 3))))), (w' 101 (.pick (.t 98) (.t 100) (.c (bo' false)))), (mv' 6 101)])
 .ret)
 .skip))
 (.seq (.reg [(fa' 102 0 15), (ld' 103 1 102), (w' 104 (.p (.bin 0 .eql (.t 103) (.c (i6' 1))))), (mv' 105 104), (gt' 106 105 (.p (.fieldAddr 4 (.t 15)))), (gt' 107 105 (.load false 1 (.t 106))), (gt' 108 105 (.p (.mv (.t 2)))), (gt' 109 105 (.p (.bin 0 .add (.c (u3' 4096)) (.t 108)))), (gt' 110 105 (.p (.bin 0 .eql (.t 107) (.t 109)))), (w' 111 (.pick (.t 105) (.t 110) (.c (bo' false)))), (mv' 112 111), (gt' 113 112 (.p (.fieldAddr 5 (.t 15)))), (gt' 114 112 (.load false 1 (.t 113))), (gt' 115 112 (.p (.bin 0 .eql (.t 114) (.c (u3' 0))))), (w' 116 (.pick (.t 112) (.t 115) (.c (bo' false)))), (mv' 117 116), (gt' 118 117 (.p (.fieldAddr 7 (.t 15)))), (gt' 119 117 (.load false 1 (.t 118))), (gt' 120 117 (.p (.lenS (.t 119)))), (gt' 121 117 (.p (.bin 0 .eql (.t 120) (.c (i6' 1))))), (w' 122 (.pick (.t 117) (.t 121) (.c (bo' false)))), (mv' 123 122), (gt' 124 123 (.p (.fieldAddr 6 (.t 15)))), (gt' 125 123 (.load false 1 (.t 124))), (gt' 126 123 (.p (.lenS (.t 125)))), (gt' 127 123 (.p (.bin 0 .eql (.t 126) (.c (i6' 1))))), (w' 128 (.pick (.t 123) (.t 127) (.c (bo' false)))), (mv' 6 128)])
 .ret))))))))))))))))))))))⟩
/- corral/corrallaw11.first -/
def af5 : AFunc := ⟨42, [.t 0],
 (.seq (.reg [(w' 0 (.p (.mv (.c (bo' false)))))])
 (.seq (.reg [(w' 8 (.call (.f 7) [(.c (i6' 19)), (.c (i6' 1)), (.c (i6' 0)), (.c (i6' 0)), (.c (u3' 5))])), (w' 9 (.call (.f 7) [(.c (i6' 18)), (.c (i6' 0)), (.c (i6' 0)), (.c (i6' 1)), (.c (u3' 64))])), (w' 10 (.mkArr 1 2 [(u3' 0)] [(0, 1, (.t 8)), (1, 1, (.t 9))])), (w' 11 (.call (.f 8) [(.c (i6' 1)), (.c (i6' 128)), (.t 10)])), (mv' 7 11), (ex' 12 0 7), (ex' 13 1 7), (mv' 1 12), (mv' 2 13)])
 (.seq (.seq (.reg [(mv' 14 1), (w' 15 (.p (.nilEq 0 false (.t 14) (.c .nilPtr)))), (mv' 16 15), (gf' 17 16 (.p (.mv (.t 2)))), (gf' 18 16 (.ifEq true true [15, 17, 27, 36, 40, 58, 101, 102, 132, 134, 140, 198, 208] (.t 17) (.c .nilIface))), (w' 19 (.pick (.t 16) (.c (bo' true)) (.t 18)))])
 (.cond (.t 19) (.seq (.reg [(w' 0 (.p (.mv (.c (bo' false)))))])
 .ret)
 .skip))
 (.seq (.reg [(mv' 20 1), (w' 21 (.mkArr 1 2 [(i6' 0)] [(0, 1, (.c (i6' 0))), (1, 1, (.c (i6' 0)))])), (w' 22 (.call (.f 9) [(.t 20), (.t 21)])), (mv' 3 22)])
 (.seq (.reg [(mv' 23 1), (w' 24 (.call (.f 10) [(.t 23)])), (mv' 4 24)])
 (.seq (.seq (.reg [(mv' 25 4), (w' 26 (.p (.nilEq 0 false (.t 25) (.c .nilPtr))))])
 (.cond (.t 26) (.seq (.reg [(w' 0 (.p (.mv (.c (bo' false)))))])
 .ret)
 .skip))
 (.seq (.reg [(mv' 28 4), (w' 29 (.call (.f 11) [(.t 28), (.c (u3' 64)), (.c (i6' 4))])), (mv' 27 29), (ex' 30 0 27), (ex' 31 1 27), (mv' 5 30), (mv' 6 31)])
 (.seq (.reg [(mv' 32 3), (w' 33 (.p (.lenS (.t 32)))), (w' 34 (.p (.bin 0 .eql (.t 33) (.c (i6' 2))))), (mv' 35 34), (gt' 36 35 (.p (.mv (.t 5)))), (gt' 37 35 (.p (.bin 0 .eql (.t 36) (.c (u3' 5))))), (w' 38 (.pick (.t 35) (.t 37) (.c (bo' false)))), (mv' 39 38), (gt' 40 39 (.p (.mv (.t 6)))), (w' 41 (.pick (.t 39) (.t 40) (.c (bo' false)))), (mv' 0 41)])
 .ret))))))))⟩
/- corral/corralworld.Word -/
def af7 : AFunc := ⟨26, [.t 10],
 (.seq (.reg [(w' 10 (.p (.mv (.c (u3' 0)))))])
 (.seq (.reg [(mv' 14 0), (mv' 15 1), (mv' 16 2), (mv' 17 3), (mv' 18 4), (w' 19 (.p (.build [(i6' 0), (i6' 0), (i6' 0), (i6' 0), (i6' 0), (u3' 0), (bo' false), (bo' false)] [(0, 1, (.t 14)), (1, 1, (.t 15)), (2, 1, (.t 16)), (3, 1, (.t 17)), (5, 1, (.t 18))]))), (w' 20 (.call (.f 17) [(.t 19)])), (mv' 13 20), (ex' 21 0 13), (ex' 22 1 13), (mv' 11 21), (mv' 12 22)])
 (.seq (.seq (.reg [(mv' 23 12), (w' 24 (.p (.bin 0 .neq (.t 23) (.c (i6' 0)))))])
 (.cond (.t 24) (.seq (.reg [(w' 10 (.p (.mv (.c (u3' 0)))))])
 .ret)
 .skip))
 (.seq (.reg [(mv' 25 11), (mv' 10 25)])
 .ret))))⟩
/- corral/seq.New -/
def af8 : AFunc := ⟨51, [.t 6, .t 7],
 (.seq (.reg [(w' 6 (.p (.mv (.c .nilPtr)))), (w' 7 (.p (.mv (.c .nilIface))))])
 (.seq (.seq (.reg [(mv' 12 0), (w' 13 (.p (.bin 0 .lss (.t 12) (.c (i6' 1))))), (mv' 14 13), (gf' 15 14 (.p (.mv (.t 0)))), (gf' 16 14 (.p (.bin 0 .gtr (.t 15) (.c (i6' 4))))), (w' 17 (.pick (.t 14) (.c (bo' true)) (.t 16)))])
 (.cond (.t 17) (.seq (.draw [((w' 18 (.load false 1 (.g 0))), []), ((w' 6 (.p (.mv (.c .nilPtr)))), []), ((mv' 7 18), [])])
 .ret)
 .skip))
 (.seq (.reg [(mv' 20 1), (mv' 21 2), (w' 22 (.call (.f 18) [(.t 20), (.t 21)])), (mv' 19 22), (ex' 23 0 19), (ex' 24 1 19), (mv' 8 23), (mv' 9 24)])
 (.seq (.seq (.reg [(mv' 25 9), (w' 26 (.ifEq true true [15, 17, 27, 36, 40, 58, 101, 102, 132, 134, 140, 198, 208] (.t 25) (.c .nilIface)))])
 (.cond (.t 26) (.seq (.reg [(mv' 27 9), (w' 6 (.p (.mv (.c .nilPtr)))), (mv' 7 27)])
 .ret)
 .skip))
 (.seq (.reg [(mv' 28 8), (w' 29 (.p (.build [.nilSlice, .nilPtr, (i6' 0)] [(1, 1, (.t 28))]))), (w' 30 (.box 3 (.t 29))), (mv' 10 30)])
 (.seq (.seq (.reg [(mv' 31 0), (w' 32 (.p (.mv (.c (i6' 0)))))])
 (.block 0 (.loop (.seq (.reg [(w' 33 (.p (.bin 0 .lss (.t 32) (.t 31))))])
 (.seq (.cond (.t 33) .skip
 (.exit 0))
 (.seq (.block 1 (.seq (.reg [(mv' 34 32), (mv' 11 34)])
 (.draw [((mv' 35 10), []), ((mv' 36 10), []), ((nc' 37 36), []), ((fa' 38 0 37), []), ((ld' 39 1 38), [7]), ((mv' 40 11), []), ((mv' 41 1), []), ((w' 42 (.call (.f 19) [(.t 40), (.t 41)])), []), ((w' 43 (.p (.build [.nilPtr, (bo' false), (u3' 0), (bo' false)] [(0, 1, (.t 42))]))), []), ((w' 44 (.box 4 (.t 43))), []), ((w' 45 (.mkArr 1 1 [.nilPtr] [(0, 1, (.t 44))])), []), ((w' 46 (.append 1 8 (.t 39) (.t 45))), []), ((nc' 47 35), []), ((fa' 48 0 47), []), ((so' 1 48 46), [])])))
 (.reg [(w' 49 (.p (.bin 0 .add (.t 32) (.c (i6' 1))))), (mv' 32 49)])))))))
 (.seq (.reg [(mv' 50 10), (mv' 6 50), (w' 7 (.p (.mv (.c .nilIface))))])
 .ret)))))))⟩
/- (*corral/seq.Machine).Run -/
def af9 : AFunc := ⟨29, [.t 4],
 (.seq (.reg [(w' 4 (.p (.mv (.c .nilSlice))))])
 (.seq (.reg [(w' 5 (.p (.mv (.c .nilSlice))))])
 (.seq (.seq (.reg [(mv' 10 1), (w' 11 (.p (.lenS (.t 10)))), (w' 12 (.p (.mv (.c (i6' 0)))))])
 (.block 0 (.loop (.seq (.reg [(w' 13 (.p (.bin 0 .lss (.t 12) (.t 11))))])
 (.seq (.cond (.t 13) .skip
 (.exit 0))
 (.seq (.block 1 (.seq (.reg [(w' 14 (.p (.idxSl 1 (.t 10) (.t 12)))), (ld' 15 1 14), (mv' 7 15)])
 (.seq (.reg [(mv' 17 0), (mv' 18 7), (w' 19 (.call (.f 20) [(.t 17), (.t 18)])), (mv' 16 19), (ex' 20 0 16), (ex' 21 1 16), (w' 8 (.newC [(i6' 0), (u3' 0), (u3' 0), (u3' 0), (u3' 0), (u3' 0), .nilSlice, .nilSlice, (u3' 0), (u3' 0), (bo' false), (i6' 0), (i6' 0)])), (so' 13 8 20), (mv' 9 21)])
 (.seq (.reg [(mv' 22 9)])
 (.cond (.t 22) (.reg [(mv' 23 5), (lg' 24 13 8), (w' 25 (.mkArr 13 1 [(i6' 0), (u3' 0), (u3' 0), (u3' 0), (u3' 0), (u3' 0), .nilSlice, .nilSlice, (u3' 0), (u3' 0), (bo' false), (i6' 0), (i6' 0)] [(0, 13, (.t 24))])), (w' 26 (.append 13 112 (.t 23) (.t 25))), (mv' 5 26)])
 .skip)))))
 (.reg [(w' 27 (.p (.bin 0 .add (.t 12) (.c (i6' 1))))), (mv' 12 27)])))))))
 (.seq (.reg [(mv' 28 5), (mv' 4 28)])
 .ret))))⟩
/- (*corral/seq.Machine).Memory -/
def af10 : AFunc := ⟨8, [.t 2],
 (.seq (.reg [(w' 2 (.p (.mv (.c .nilPtr))))])
 (.seq (.reg [(mv' 3 0), (nc' 4 3), (fa' 5 1 4), (ld' 6 1 5), (w' 7 (.call (.f 21) [(.t 6)])), (mv' 2 7)])
 .ret))⟩
/- (*corral/mem.Memory).Load -/
def af11 : AFunc := ⟨21, [.t 6, .t 7],
 (.seq (.reg [(w' 6 (.p (.mv (.c (u3' 0))))), (w' 7 (.p (.mv (.c (bo' false)))))])
 (.seq (.seq (.reg [(mv' 8 0), (mv' 9 1), (mv' 10 2), (w' 11 (.call (.f 22) [(.t 8), (.t 9), (.t 10)])), (w' 12 (.p (.un .not (.t 11))))])
 (.cond (.t 12) (.seq (.reg [(w' 6 (.p (.mv (.c (u3' 0))))), (w' 7 (.p (.mv (.c (bo' false)))))])
 .ret)
 .skip))
 (.seq (.reg [(mv' 13 0), (nc' 14 13), (fa' 15 0 14), (ld' 16 1 15), (mv' 17 1), (w' 18 (.p (.slice 1 (.t 16) (some (.t 17)) none))), (mv' 19 2), (w' 20 (.call (.f 23) [(.t 18), (.t 19)])), (mv' 6 20), (w' 7 (.p (.mv (.c (bo' true)))))])
 .ret)))⟩
/- (*corral/hart.Hart).PC -/
def af14 : AFunc := ⟨7, [.t 2],
 (.seq (.reg [(w' 2 (.p (.mv (.c (u3' 0)))))])
 (.seq (.reg [(mv' 3 0), (nc' 4 3), (fa' 5 11 4), (ld' 6 1 5), (mv' 2 6)])
 .ret))⟩
/- corral/corralworld.Csr -/
def af15 : AFunc := ⟨26, [.t 10],
 (.seq (.reg [(w' 10 (.p (.mv (.c (u3' 0)))))])
 (.seq (.reg [(mv' 14 0), (mv' 15 1), (mv' 16 3), (mv' 17 2), (mv' 18 4), (w' 19 (.p (.build [(i6' 0), (i6' 0), (i6' 0), (i6' 0), (i6' 0), (u3' 0), (bo' false), (bo' false)] [(0, 1, (.t 14)), (1, 1, (.t 15)), (2, 1, (.t 16)), (4, 1, (.t 17)), (5, 1, (.t 18))]))), (w' 20 (.call (.f 17) [(.t 19)])), (mv' 13 20), (ex' 21 0 13), (ex' 22 1 13), (mv' 11 21), (mv' 12 22)])
 (.seq (.seq (.reg [(mv' 23 12), (w' 24 (.p (.bin 0 .neq (.t 23) (.c (i6' 0)))))])
 (.cond (.t 24) (.seq (.reg [(w' 10 (.p (.mv (.c (u3' 0)))))])
 .ret)
 .skip))
 (.seq (.reg [(mv' 25 11), (mv' 10 25)])
 .ret))))⟩
/- corral/pte.Make -/
def af16 : AFunc := ⟨24, [.t 4],
 (.seq (.reg [(w' 4 (.p (.mv (.c (u3' 0)))))])
 (.seq (.reg [(w' 5 (.p (.mv (.c (u3' 0)))))])
 (.seq (.seq (.reg [(mv' 8 1), (w' 9 (.p (.lenS (.t 8)))), (w' 10 (.p (.mv (.c (i6' 0)))))])
 (.block 0 (.loop (.seq (.reg [(w' 11 (.p (.bin 0 .lss (.t 10) (.t 9))))])
 (.seq (.cond (.t 11) .skip
 (.exit 0))
 (.seq (.block 1 (.seq (.reg [(w' 12 (.p (.idxSl 1 (.t 8) (.t 10)))), (ld' 13 1 12), (mv' 7 13)])
 (.reg [(mv' 14 5), (mv' 15 7), (w' 16 (.p (.bin 0 .or (.t 14) (.t 15)))), (mv' 5 16)])))
 (.reg [(w' 17 (.p (.bin 0 .add (.t 10) (.c (i6' 1))))), (mv' 10 17)])))))))
 (.seq (.reg [(mv' 18 0), (w' 19 (.p (.build [(i6' 0), (i6' 0), (u3' 0)] [(0, 1, (.c (i6' 10))), (1, 1, (.c (i6' 22))), (2, 1, (.t 18))]))), (mv' 20 5), (w' 21 (.p (.build [(i6' 0), (i6' 0), (u3' 0)] [(0, 1, (.c (i6' 0))), (1, 1, (.c (i6' 10))), (2, 1, (.t 20))]))), (w' 22 (.mkArr 3 2 [(i6' 0), (i6' 0), (u3' 0)] [(0, 3, (.t 19)), (3, 3, (.t 21))])), (w' 23 (.call (.f 26) [(.t 22)])), (mv' 4 23)])
 .ret))))⟩
/- corral/corralref1.Encode -/
def af17 : AFunc := ⟨123, [.t 2, .t 3],
 (.seq (.reg [(w' 1 (.box 8 (.t 0))), (w' 2 (.p (.mv (.c (u3' 0))))), (w' 3 (.p (.mv (.c (i6' 0)))))])
 (.seq (.reg [(fa' 9 0 1), (ld' 10 1 9), (w' 11 (.call (.f 27) [(.t 10)])), (mv' 8 11), (ex' 12 0 8), (ex' 13 1 8), ⟨(some 4), (.newC [(i6' 0), (.str ⟨#[]⟩), (u3' 0), (u3' 0), (u3' 0), (bo' false), (bo' false), (.int .u8 (.lit 0)), (bo' false), (bo' false), (bo' false), (bo' false), (u3' 0), (bo' false)]), none⟩, (so' 14 4 12), (mv' 5 13)])
 (.seq (.seq (.reg [(mv' 14 5), (w' 15 (.p (.un .not (.t 14))))])
 (.cond (.t 15) (.seq (.reg [(w' 2 (.p (.mv (.c (u3' 0))))), (w' 3 (.p (.mv (.c (i6' 102)))))])
 .ret)
 .skip))
 (.seq (.reg [(fa' 17 7 4), (ld' 18 1 17), (fa' 19 5 1), (ld' 20 1 19), (w' 21 (.call (.f 28) [(.t 18), (.t 20)])), (mv' 16 21), (ex' 22 0 16), (ex' 23 1 16), (mv' 6 22), (mv' 7 23)])
 (.seq (.seq (.reg [(fa' 24 1 1), (ld' 25 1 24), (w' 26 (.call (.f 29) [(.t 25)])), (w' 27 (.p (.un .not (.t 26)))), (mv' 28 27), (gf' 29 28 (.p (.fieldAddr 2 (.t 1)))), (gf' 30 28 (.load false 1 (.t 29))), (gf' 31 28 (.call (.f 29) [(.t 30)])), (gf' 32 28 (.p (.un .not (.t 31)))), (w' 33 (.pick (.t 28) (.c (bo' true)) (.t 32))), (mv' 34 33), (gf' 35 34 (.p (.fieldAddr 3 (.t 1)))), (gf' 36 34 (.load false 1 (.t 35))), (gf' 37 34 (.call (.f 29) [(.t 36)])), (gf' 38 34 (.p (.un .not (.t 37)))), (w' 39 (.pick (.t 34) (.c (bo' true)) (.t 38))), (mv' 40 39), (gf' 41 40 (.p (.fieldAddr 4 (.t 1)))), (gf' 42 40 (.load false 1 (.t 41))), (gf' 43 40 (.p (.bin 0 .lss (.t 42) (.c (i6' 0))))), (w' 44 (.pick (.t 40) (.c (bo' true)) (.t 43))), (mv' 45 44), (gf' 46 45 (.p (.fieldAddr 4 (.t 1)))), (gf' 47 45 (.load false 1 (.t 46))), (gf' 48 45 (.p (.bin 0 .gtr (.t 47) (.c (i6' 4095))))), (w' 49 (.pick (.t 45) (.c (bo' true)) (.t 48))), (mv' 50 49), (gf' 51 50 (.p (.fieldAddr 7 (.t 4)))), (gf' 52 50 (.load false 1 (.t 51))), (gf' 53 50 (.p (.bin 0 .neq (.t 52) (.c (.int .u8 (.lit 0)))))), (gf' 54 50 (.p (.mv (.t 53)))), (gt' 55 54 (.p (.mv (.t 7)))), (gt' 56 54 (.p (.un .not (.t 55)))), (gf' 57 50 (.pick (.t 54) (.t 56) (.c (bo' false)))), (w' 58 (.pick (.t 50) (.c (bo' true)) (.t 57)))])
 (.cond (.t 58) (.seq (.reg [(w' 2 (.p (.mv (.c (u3' 0))))), (w' 3 (.p (.mv (.c (i6' 106)))))])
 .ret)
 .skip))
 (.seq (.seq (.reg [(fa' 59 8 4), (ld' 60 1 59), (w' 61 (.p (.un .not (.t 60)))), (mv' 62 61), (gt' 63 62 (.p (.fieldAddr 1 (.t 1)))), (gt' 64 62 (.load false 1 (.t 63))), (gt' 65 62 (.p (.bin 0 .neq (.t 64) (.c (i6' 0))))), (w' 66 (.pick (.t 62) (.t 65) (.c (bo' false)))), (mv' 67 66), (gf' 68 67 (.p (.fieldAddr 9 (.t 4)))), (gf' 69 67 (.load false 1 (.t 68))), (gf' 70 67 (.p (.un .not (.t 69)))), (gf' 71 67 (.p (.mv (.t 70)))), (gt' 72 71 (.p (.fieldAddr 2 (.t 1)))), (gt' 73 71 (.load false 1 (.t 72))), (gt' 74 71 (.p (.bin 0 .neq (.t 73) (.c (i6' 0))))), (gf' 75 67 (.pick (.t 71) (.t 74) (.c (bo' false)))), (w' 76 (.pick (.t 67) (.c (bo' true)) (.t 75))), (mv' 77 76), (gf' 78 77 (.p (.fieldAddr 10 (.t 4)))), (gf' 79 77 (.load false 1 (.t 78))), (gf' 80 77 (.p (.un .not (.t 79)))), (gf' 81 77 (.p (.mv (.t 80)))), (gt' 82 81 (.p (.fieldAddr 3 (.t 1)))), (gt' 83 81 (.load false 1 (.t 82))), (gt' 84 81 (.p (.bin 0 .neq (.t 83) (.c (i6' 0))))), (gf' 85 77 (.pick (.t 81) (.t 84) (.c (bo' false)))), (w' 86 (.pick (.t 77) (.c (bo' true)) (.t 85))), (mv' 87 86), (gf' 88 87 (.p (.fieldAddr 11 (.t 4)))), (gf' 89 87 (.load false 1 (.t 88))), (gf' 90 87 (.p (.un .not (.t 89)))), (gf' 91 87 (.p (.mv (.t 90)))), (gt' 92 91 (.p (.fieldAddr 4 (.t 1)))), (gt' 93 91 (.load false 1 (.t 92))), (gt' 94 91 (.p (.bin 0 .neq (.t 93) (.c (i6' 0))))), (gf' 95 87 (.pick (.t 91) (.t 94) (.c (bo' false)))), (w' 96 (.pick (.t 87) (.c (bo' true)) (.t 95))), (mv' 97 96), (gf' 98 97 (.p (.fieldAddr 7 (.t 4)))), (gf' 99 97 (.load false 1 (.t 98))), (gf' 100 97 (.p (.bin 0 .eql (.t 99) (.c (.int .u8 (.lit 0)))))), (gf' 101 97 (.p (.mv (.t 100)))), (gt' 102 101 (.p (.fieldAddr 5 (.t 1)))), (gt' 103 101 (.load false 1 (.t 102))), (gt' 104 101 (.p (.bin 0 .neq (.t 103) (.c (u3' 0))))), (gf' 105 97 (.pick (.t 101) (.t 104) (.c (bo' false)))), (w' 106 (.pick (.t 97) (.c (bo' true)) (.t 105))), (mv' 107 106), (gf' 108 107 (.p (.fieldAddr 13 (.t 4)))), (gf' 109 107 (.load false 1 (.t 108))), (gf' 110 107 (.p (.un .not (.t 109)))), (gf' 111 107 (.p (.mv (.t 110)))), (gt' 112 111 (.p (.fieldAddr 6 (.t 1)))), (gt' 113 111 (.load false 1 (.t 112))), (gt' 114 111 (.p (.mv (.t 113)))), (gf' 115 114 (.p (.fieldAddr 7 (.t 1)))), (gf' 116 114 (.load false 1 (.t 115))), (gt' 117 111 (.pick (.t 114) (.c (bo' true)) (.t 116))), (gf' 118 107 (.pick (.t 111) (.t 117) (.c (bo' false)))), (w' 119 (.pick (.t 107) (.c (bo' true)) (.t 118)))])
 (.cond (.t 119) (.seq (.reg [(w' 2 (.p (.mv (.c (u3' 0))))), (w' 3 (.p (.mv (.c (i6' 104)))))])
 .ret)
 .skip))
 (.seq (.reg [(lg' 120 14 4), (lg' 121 8 1), (w' 122 (.call (.f 30) [(.t 120), (.t 121)])), (mv' 2 122), (w' 3 (.p (.mv (.c (i6' 0)))))])
 .ret)))))))⟩
/- corral/mem.New -/
def af18 : AFunc := ⟨49, [.t 4, .t 5],
 (.seq (.reg [(w' 4 (.p (.mv (.c .nilPtr)))), (w' 5 (.p (.mv (.c .nilIface))))])
 (.seq (.seq (.reg [(mv' 9 0), (w' 10 (.p (.bin 0 .lss (.t 9) (.c (i6' 16))))), (mv' 11 10), (gf' 12 11 (.p (.mv (.t 0)))), (gf' 13 11 (.p (.bin 0 .gtr (.t 12) (.c (i6' 65536))))), (w' 14 (.pick (.t 11) (.c (bo' true)) (.t 13))), (mv' 15 14), (gf' 16 15 (.p (.mv (.t 0)))), (gf' 17 15 (.p (.bin 0 .rem (.t 16) (.c (i6' 16))))), (gf' 18 15 (.p (.bin 0 .neq (.t 17) (.c (i6' 0))))), (w' 19 (.pick (.t 15) (.c (bo' true)) (.t 18)))])
 (.cond (.t 19) (.seq (.draw [((w' 20 (.load false 1 (.g 0))), []), ((w' 4 (.p (.mv (.c .nilPtr)))), []), ((mv' 5 20), [])])
 .ret)
 .skip))
 (.seq (.seq (.reg [(mv' 21 1), (w' 22 (.p (.lenS (.t 21)))), (mv' 23 0), (w' 24 (.p (.bin 0 .quo (.t 23) (.c (i6' 4))))), (w' 25 (.p (.bin 0 .gtr (.t 22) (.t 24))))])
 (.cond (.t 25) (.seq (.draw [((w' 26 (.load false 1 (.g 1))), []), ((w' 4 (.p (.mv (.c .nilPtr)))), []), ((mv' 5 26), [])])
 .ret)
 .skip))
 (.seq (.reg [(mv' 27 0), (w' 28 (.mkSl 1 1 [(.int .u8 (.lit 0))] (.t 27) (.t 27))), (w' 29 (.p (.build [.nilSlice] [(0, 1, (.t 28))]))), (w' 30 (.box 1 (.t 29))), (mv' 6 30)])
 (.seq (.seq (.reg [(mv' 31 1), (w' 32 (.p (.lenS (.t 31)))), (w' 33 (.p (.mv (.c (i6' 0)))))])
 (.block 0 (.loop (.seq (.reg [(w' 34 (.p (.bin 0 .lss (.t 33) (.t 32))))])
 (.seq (.cond (.t 34) .skip
 (.exit 0))
 (.seq (.block 1 (.seq (.reg [(mv' 35 33), (w' 36 (.p (.idxSl 1 (.t 31) (.t 33)))), (ld' 37 1 36), (mv' 7 35), (mv' 8 37)])
 (.reg [(mv' 38 6), (nc' 39 38), (fa' 40 0 39), (ld' 41 1 40), (mv' 42 7), (w' 43 (.p (.bin 0 .mul (.c (i6' 4)) (.t 42)))), (w' 44 (.p (.slice 1 (.t 41) (some (.t 43)) none))), (mv' 45 8), (w' 46 (.call (.f 31) [(.t 44), (.c (i6' 4)), (.t 45)]))])))
 (.reg [(w' 47 (.p (.bin 0 .add (.t 33) (.c (i6' 1))))), (mv' 33 47)])))))))
 (.seq (.reg [(mv' 48 6), (mv' 4 48), (w' 5 (.p (.mv (.c .nilIface))))])
 .ret))))))⟩
/- corral/hart.New -/
def af19 : AFunc := ⟨10, [.t 4],
 (.seq (.reg [(w' 4 (.p (.mv (.c .nilPtr))))])
 (.seq (.reg [(mv' 5 0), (w' 6 (.call (.f 32) [(.t 5)])), (mv' 7 1), (w' 8 (.p (.build [(bo' false), (u3' 0), (u3' 0), (u3' 0), (u3' 0), (u3' 0), (u3' 0), (u3' 0), (u3' 0), (u3' 0), (u3' 0), (u3' 0), (u3' 0), (u3' 0), (u3' 0), (u3' 0), (u3' 0), (u3' 0), (u3' 0), (u3' 0), (u3' 0), (u3' 0), (u3' 0), (u3' 0), (u3' 0), (u3' 0), (u3' 0), (u3' 0), (u3' 0), (u3' 0), (u3' 0), (u3' 0), (u3' 0), (u3' 0), (u3' 0), (u3' 0), (u3' 0), (u3' 0), (u3' 0), (u3' 0), (u3' 0), (u3' 0), (u3' 0), (u3' 0), (i6' 0)] [(0, 11, (.t 6)), (44, 1, (.t 7))]))), (w' 9 (.box 45 (.t 8))), (mv' 4 9)])
 .ret))⟩
/- (*corral/seq.Machine).Step -/
def af20 : AFunc := ⟨63, [.cell 4 true 13, .t 5],
 (.seq (.reg [(w' 4 (.newC [(i6' 0), (u3' 0), (u3' 0), (u3' 0), (u3' 0), (u3' 0), .nilSlice, .nilSlice, (u3' 0), (u3' 0), (bo' false), (i6' 0), (i6' 0)])), (w' 5 (.p (.mv (.c (bo' false)))))])
 (.seq (.reg [(mv' 12 0), (mv' 13 1), (w' 14 (.call (.f 24) [(.t 12), (.t 13)])), (mv' 6 14)])
 (.seq (.seq (.reg [(mv' 15 6), (w' 16 (.p (.nilEq 0 false (.t 15) (.c .nilPtr)))), (mv' 17 16), (gf' 18 17 (.p (.mv (.t 6)))), (gf' 19 17 (.p (.nilCheck (.t 18)))), (gf' 20 17 (.p (.fieldAddr 3 (.t 19)))), (gf' 21 17 (.load false 1 (.t 20))), (w' 22 (.pick (.t 17) (.c (bo' true)) (.t 21)))])
 (.cond (.t 22) (.seq (.reg [(w' 23 (.p (.build [(i6' 0), (u3' 0), (u3' 0), (u3' 0), (u3' 0), (u3' 0), .nilSlice, .nilSlice, (u3' 0), (u3' 0), (bo' false), (i6' 0), (i6' 0)] []))), (so' 13 4 23), (w' 5 (.p (.mv (.c (bo' false)))))])
 .ret)
 .skip))
 (.seq (.reg [(w' 7 (.newC [(i6' 0), (u3' 0), (u3' 0), (u3' 0), (u3' 0), (u3' 0), .nilSlice, .nilSlice, (u3' 0), (u3' 0), (bo' false), (i6' 0), (i6' 0)]))])
 (.seq (.seq (.reg [(mv' 25 6), (nc' 26 25), (fa' 27 0 26), (ld' 28 1 27), (nc' 29 28), (fa' 30 0 29), (w' 31 (.call (.f 33) [(.t 30)])), (mv' 24 31), (ex' 32 0 24), (ex' 33 1 24), (mv' 8 32), (mv' 9 33)])
 (.seq (.reg [(mv' 34 9)])
 (.cond (.t 34) (.reg [(mv' 35 6), (nc' 36 35), (fa' 37 0 36), (ld' 38 1 37), (w' 39 (.call (.f 14) [(.t 38)])), (mv' 40 8), (w' 41 (.p (.build [(i6' 0), (u3' 0), (u3' 0), (u3' 0), (u3' 0), (u3' 0), .nilSlice, .nilSlice, (u3' 0), (u3' 0), (bo' false), (i6' 0), (i6' 0)] [(0, 1, (.c (i6' 3))), (1, 1, (.t 39)), (8, 1, (.t 40))]))), (so' 13 7 41)])
 (.reg [(mv' 42 0), (mv' 43 6), (w' 44 (.call (.f 34) [(.t 42), (.t 43)])), (so' 13 7 44)]))))
 (.seq (.reg [(mv' 45 0), (w' 46 (.call (.f 35) [(.t 45)])), (fa' 47 12 7), (so' 1 47 46)])
 (.seq (.draw [((mv' 49 6), []), ((nc' 50 49), []), ((fa' 51 0 50), []), ((ld' 52 1 51), []), ((lg' 53 13 7), []), ((w' 54 (.call (.f 36) [(.t 52), (.t 53)])), []), ((mv' 48 54), []), ((ex' 55 0 48), []), ((ex' 56 1 48), []), ((w' 10 (.newC [(i6' 0), (u3' 0), (i6' 0), (u3' 0), (bo' false), (bo' false), (bo' false)])), []), ((so' 7 10 55), []), ((mv' 11 56), [])])
 (.seq (.reg [(mv' 57 0), (mv' 58 6), (lg' 59 13 7), (lg' 60 7 10), (w' 61 (.call (.f 37) [(.t 57), (.t 58), (.t 59), (.t 60)]))])
 (.seq (.reg [(lg' 62 13 7), (so' 13 4 62), (w' 5 (.p (.mv (.c (bo' true)))))])
 .ret)))))))))⟩
/- (*corral/mem.Memory).Clone -/
def af21 : AFunc := ⟨10, [.t 2],
 (.seq (.reg [(w' 2 (.p (.mv (.c .nilPtr))))])
 (.seq (.reg [(mv' 3 0), (nc' 4 3), (fa' 5 0 4), (ld' 6 1 5), (w' 7 (.call (.f 38) [(.t 6)])), (w' 8 (.p (.build [.nilSlice] [(0, 1, (.t 7))]))), (w' 9 (.box 1 (.t 8))), (mv' 2 9)])
 .ret))⟩
/- (*corral/mem.Memory).Has -/
def af22 : AFunc := ⟨22, [.t 6],
 (.seq (.reg [(w' 6 (.p (.mv (.c (bo' false)))))])
 (.seq (.reg [(mv' 7 1), (mv' 8 2), (w' 9 (.call (.f 39) [(.t 7), (.t 8)])), (mv' 10 9), (gt' 11 10 (.p (.mv (.t 1)))), (gt' 12 10 (.p (.conv .i64 (.t 11)))), (gt' 13 10 (.p (.mv (.t 0)))), (gt' 14 10 (.p (.nilCheck (.t 13)))), (gt' 15 10 (.p (.fieldAddr 0 (.t 14)))), (gt' 16 10 (.load false 1 (.t 15))), (gt' 17 10 (.p (.lenS (.t 16)))), (gt' 18 10 (.p (.mv (.t 2)))), (gt' 19 10 (.p (.bin 0 .sub (.t 17) (.t 18)))), (gt' 20 10 (.p (.bin 0 .leq (.t 12) (.t 19)))), (w' 21 (.pick (.t 10) (.t 20) (.c (bo' false)))), (mv' 6 21)])
 .ret))⟩
/- corral/mem.get -/
def af23 : AFunc := ⟨23, [.t 4],
 (.seq (.reg [(w' 4 (.p (.mv (.c (u3' 0)))))])
 (.seq (.reg [(w' 5 (.p (.mv (.c (u3' 0)))))])
 (.seq (.seq (.reg [(mv' 7 1), (w' 8 (.p (.mv (.c (i6' 0)))))])
 (.block 0 (.loop (.seq (.reg [(w' 9 (.p (.bin 0 .lss (.t 8) (.t 7))))])
 (.seq (.cond (.t 9) .skip
 (.exit 0))
 (.seq (.block 1 (.seq (.reg [(mv' 10 8), (mv' 6 10)])
 (.reg [(mv' 11 5), (mv' 12 0), (mv' 13 6), (w' 14 (.p (.idxSl 1 (.t 12) (.t 13)))), (ld' 15 1 14), (w' 16 (.p (.conv .u32 (.t 15)))), (mv' 17 6), (w' 18 (.p (.bin 0 .mul (.c (i6' 8)) (.t 17)))), (w' 19 (.p (.bin 0 .shl (.t 16) (.t 18)))), (w' 20 (.p (.bin 0 .or (.t 11) (.t 19)))), (mv' 5 20)])))
 (.reg [(w' 21 (.p (.bin 0 .add (.t 8) (.c (i6' 1))))), (mv' 8 21)])))))))
 (.seq (.reg [(mv' 22 5), (mv' 4 22)])
 .ret))))⟩
/- (*corral/seq.Machine).there -/
def af24 : AFunc := ⟨23, [.t 4],
 (.seq (.reg [(w' 4 (.p (.mv (.c .nilPtr))))])
 (.seq (.seq (.reg [(mv' 5 1), (w' 6 (.p (.bin 0 .lss (.t 5) (.c (i6' 0))))), (mv' 7 6), (gf' 8 7 (.p (.mv (.t 1)))), (gf' 9 7 (.p (.mv (.t 0)))), (gf' 10 7 (.p (.nilCheck (.t 9)))), (gf' 11 7 (.p (.fieldAddr 0 (.t 10)))), (gf' 12 7 (.load false 1 (.t 11))), (gf' 13 7 (.p (.lenS (.t 12)))), (gf' 14 7 (.p (.bin 0 .geq (.t 8) (.t 13)))), (w' 15 (.pick (.t 7) (.c (bo' true)) (.t 14)))])
 (.cond (.t 15) (.seq (.reg [(w' 4 (.p (.mv (.c .nilPtr))))])
 .ret)
 .skip))
 (.seq (.reg [(mv' 16 0), (nc' 17 16), (fa' 18 0 17), (ld' 19 1 18), (mv' 20 1), (w' 21 (.p (.idxSl 1 (.t 19) (.t 20)))), (ld' 22 1 21), (mv' 4 22)])
 .ret)))⟩
/- (*corral/hart.Hart).Clone -/
def af25 : AFunc := ⟨7, [.t 2],
 (.seq (.reg [(w' 2 (.p (.mv (.c .nilPtr))))])
 (.seq (.reg [(mv' 4 0), (nc' 5 4), (lg' 6 45 5), (w' 3 (.newC [(bo' false), (u3' 0), (u3' 0), (u3' 0), (u3' 0), (u3' 0), (u3' 0), (u3' 0), (u3' 0), (u3' 0), (u3' 0), (u3' 0), (u3' 0), (u3' 0), (u3' 0), (u3' 0), (u3' 0), (u3' 0), (u3' 0), (u3' 0), (u3' 0), (u3' 0), (u3' 0), (u3' 0), (u3' 0), (u3' 0), (u3' 0), (u3' 0), (u3' 0), (u3' 0), (u3' 0), (u3' 0), (u3' 0), (u3' 0), (u3' 0), (u3' 0), (u3' 0), (u3' 0), (u3' 0), (u3' 0), (u3' 0), (u3' 0), (u3' 0), (u3' 0), (i6' 0)])), (so' 45 3 6)])
 (.seq (.reg [(mv' 2 3)])
 .ret)))⟩
/- corral/word.Pack -/
def af26 : AFunc := ⟨33, [.t 2],
 (.seq (.reg [(w' 2 (.p (.mv (.c (u3' 0)))))])
 (.seq (.reg [(w' 3 (.p (.mv (.c (u3' 0)))))])
 (.seq (.seq (.reg [(mv' 6 0), (w' 7 (.p (.lenS (.t 6)))), (w' 8 (.p (.mv (.c (i6' 0)))))])
 (.block 0 (.loop (.seq (.reg [(w' 9 (.p (.bin 0 .lss (.t 8) (.t 7))))])
 (.seq (.cond (.t 9) .skip
 (.exit 0))
 (.seq (.block 1 (.seq (.reg [(w' 10 (.p (.idxSl 3 (.t 6) (.t 8)))), (lg' 11 3 10), (w' 5 (.newC [(i6' 0), (i6' 0), (u3' 0)])), (so' 3 5 11)])
 (.seq (.reg [(fa' 12 0 5), (ld' 13 1 12), (w' 14 (.p (.bin 0 .geq (.t 13) (.c (i6' 0))))), (mv' 15 14), (gt' 16 15 (.p (.fieldAddr 0 (.t 5)))), (gt' 17 15 (.load false 1 (.t 16))), (gt' 18 15 (.p (.bin 0 .lss (.t 17) (.c (i6' 32))))), (w' 19 (.pick (.t 15) (.t 18) (.c (bo' false))))])
 (.cond (.t 19) (.draw [((mv' 20 3), []), ((fa' 21 2 5), []), ((ld' 22 1 21), [5]), ((fa' 23 1 5), []), ((ld' 24 1 23), []), ((w' 25 (.call (.f 40) [(.t 24)])), []), ((w' 26 (.p (.bin 0 .and (.t 22) (.t 25)))), []), ((fa' 27 0 5), []), ((ld' 28 1 27), [5]), ((w' 29 (.p (.bin 0 .shl (.t 26) (.t 28)))), []), ((w' 30 (.p (.bin 0 .or (.t 20) (.t 29)))), []), ((mv' 3 30), [])])
 .skip))))
 (.reg [(w' 31 (.p (.bin 0 .add (.t 8) (.c (i6' 1))))), (mv' 8 31)])))))))
 (.seq (.reg [(mv' 32 3), (mv' 2 32)])
 .ret))))⟩
/- corral/corralref1.Of -/
def af27 : AFunc := ⟨32, [.cell 2 true 14, .t 3],
 (.seq (.reg [⟨(some 2), (.newC [(i6' 0), (.str ⟨#[]⟩), (u3' 0), (u3' 0), (u3' 0), (bo' false), (bo' false), (.int .u8 (.lit 0)), (bo' false), (bo' false), (bo' false), (bo' false), (u3' 0), (bo' false)]), none⟩, (w' 3 (.p (.mv (.c (bo' false)))))])
 (.seq (.seq (.reg [(mv' 6 0), (w' 7 (.p (.bin 0 .lss (.t 6) (.c (i6' 1))))), (mv' 8 7), (gf' 9 8 (.p (.mv (.t 0)))), (gf' 10 8 (.p (.bin 0 .gtr (.t 9) (.c (i6' 69))))), (w' 11 (.pick (.t 8) (.c (bo' true)) (.t 10)))])
 (.cond (.t 11) (.seq (.reg [⟨(some 12), (.p (.build [(i6' 0), (.str ⟨#[]⟩), (u3' 0), (u3' 0), (u3' 0), (bo' false), (bo' false), (.int .u8 (.lit 0)), (bo' false), (bo' false), (bo' false), (bo' false), (u3' 0), (bo' false)] [])), none⟩, (so' 14 2 12), (w' 3 (.p (.mv (.c (bo' false)))))])
 .ret)
 .skip))
 (.seq (.reg [(w' 13 (.call (.f 41) [])), (mv' 4 13)])
 (.seq (.seq (.reg [(w' 5 (.p (.mv (.c (i6' 0)))))])
 (.block 0 (.loop (.seq (.seq (.reg [(mv' 14 5), (mv' 15 4), (w' 16 (.p (.lenS (.t 15)))), (w' 17 (.p (.bin 0 .lss (.t 14) (.t 16))))])
 (.cond (.t 17) .skip
 (.exit 0)))
 (.seq (.block 1 (.seq (.reg [(mv' 20 4), (mv' 21 5), (w' 22 (.p (.idxSl 14 (.t 20) (.t 21)))), (fa' 23 0 22), (ld' 24 1 23), (mv' 25 0), (w' 26 (.p (.bin 0 .eql (.t 24) (.t 25))))])
 (.cond (.t 26) (.seq (.reg [(mv' 27 4), (mv' 28 5), (w' 29 (.p (.idxSl 14 (.t 27) (.t 28)))), (lg' 30 14 29), (so' 14 2 30), (w' 3 (.p (.mv (.c (bo' true)))))])
 .ret)
 .skip)))
 (.reg [(mv' 18 5), (w' 19 (.p (.bin 0 .add (.t 18) (.c (i6' 1))))), (mv' 5 19)]))))))
 (.seq (.reg [⟨(some 31), (.p (.build [(i6' 0), (.str ⟨#[]⟩), (u3' 0), (u3' 0), (u3' 0), (bo' false), (bo' false), (.int .u8 (.lit 0)), (bo' false), (bo' false), (bo' false), (bo' false), (u3' 0), (bo' false)] [])), none⟩, (so' 14 2 31), (w' 3 (.p (.mv (.c (bo' false)))))])
 .ret)))))⟩
/- corral/corralref1.lay -/
def af28 : AFunc := ⟨34, [.t 4, .t 5],
 (.seq (.reg [(w' 4 (.p (.mv (.c (u3' 0))))), (w' 5 (.p (.mv (.c (bo' false)))))])
 (.seq (.seq (.reg [(mv' 6 0)])
 (.block 0 (.seq (.reg [(w' 8 (.p (.bin 0 .eql (.t 6) (.c (.int .u8 (.lit 0)))))), (mv' 7 8)])
 (.cond (.t 7) (.seq (.reg [(mv' 9 1), (w' 10 (.p (.bin 0 .eql (.t 9) (.c (u3' 0))))), (w' 4 (.p (.mv (.c (u3' 0))))), (mv' 5 10)])
 .ret)
 (.seq (.reg [(w' 12 (.p (.bin 0 .eql (.t 6) (.c (.int .u8 (.lit 90)))))), (mv' 11 12)])
 (.cond (.t 11) (.seq (.reg [(mv' 13 1), (w' 14 (.p (.bin 0 .shl (.t 13) (.c (.int .u64 (.lit 20)))))), (mv' 15 1), (w' 16 (.p (.bin 0 .lss (.t 15) (.c (u3' 32))))), (mv' 4 14), (mv' 5 16)])
 .ret)
 (.seq (.reg [(w' 18 (.p (.bin 0 .eql (.t 6) (.c (.int .u8 (.lit 67)))))), (mv' 17 18)])
 (.cond (.t 17) (.seq (.reg [(mv' 19 1), (w' 20 (.p (.bin 0 .shl (.t 19) (.c (.int .u64 (.lit 15)))))), (mv' 21 1), (w' 22 (.p (.bin 0 .lss (.t 21) (.c (u3' 32))))), (mv' 4 20), (mv' 5 22)])
 .ret)
 (.seq (.reg [(w' 24 (.p (.bin 0 .eql (.t 6) (.c (.int .u8 (.lit 70)))))), (mv' 23 24)])
 (.cond (.t 23) (.seq (.reg [(mv' 25 1), (w' 26 (.p (.bin 0 .shl (.t 25) (.c (.int .u64 (.lit 20)))))), (mv' 27 1), (w' 28 (.p (.bin 0 .lss (.t 27) (.c (u3' 256))))), (mv' 4 26), (mv' 5 28)])
 .ret)
 .skip))))))))))
 (.seq (.reg [(mv' 29 0), (mv' 30 1), (w' 31 (.call (.f 42) [(.t 29), (.t 30)])), (ex' 32 0 31), (ex' 33 1 31), (mv' 4 32), (mv' 5 33)])
 .ret)))⟩
/- corral/corralref1.reg -/
def af29 : AFunc := ⟨9, [.t 2],
 (.seq (.reg [(w' 2 (.p (.mv (.c (bo' false)))))])
 (.seq (.reg [(mv' 3 0), (w' 4 (.p (.bin 0 .geq (.t 3) (.c (i6' 0))))), (mv' 5 4), (gt' 6 5 (.p (.mv (.t 0)))), (gt' 7 5 (.p (.bin 0 .leq (.t 6) (.c (i6' 31))))), (w' 8 (.pick (.t 5) (.t 7) (.c (bo' false)))), (mv' 2 8)])
 .ret))⟩
/- corral/corralref1.word -/
def af30 : AFunc := ⟨70, [.t 4],
 (.seq (.reg [(w' 2 (.box 14 (.t 0))), (w' 3 (.box 8 (.t 1))), (w' 4 (.p (.mv (.c (u3' 0)))))])
 (.seq (.seq (.reg [(fa' 8 12 2), (ld' 9 1 8), (w' 10 (.p (.bin 0 .neq (.t 9) (.c (u3' 0)))))])
 (.cond (.t 10) (.seq (.reg [(fa' 11 12 2), (ld' 12 1 11), (mv' 4 12)])
 .ret)
 .skip))
 (.seq (.reg [(fa' 13 2 2), (ld' 14 1 13), (fa' 15 3 2), (ld' 16 1 15), (w' 17 (.p (.bin 0 .shl (.t 16) (.c (.int .u64 (.lit 12)))))), (w' 18 (.p (.bin 0 .or (.t 14) (.t 17)))), (mv' 5 18)])
 (.seq (.seq (.reg [(fa' 19 13 2), (ld' 20 1 19)])
 (.cond (.t 20) (.seq (.reg [(mv' 21 5), (fa' 22 4 2), (ld' 23 1 22), (w' 24 (.p (.bin 0 .shl (.t 23) (.c (.int .u64 (.lit 27)))))), (w' 25 (.p (.bin 0 .or (.t 21) (.t 24)))), (mv' 5 25)])
 (.seq (.seq (.reg [(fa' 26 6 3), (ld' 27 1 26)])
 (.cond (.t 27) (.reg [(mv' 28 5), (w' 29 (.p (.bin 0 .or (.t 28) (.c (u3' 67108864))))), (mv' 5 29)])
 .skip))
 (.seq (.reg [(fa' 30 7 3), (ld' 31 1 30)])
 (.cond (.t 31) (.reg [(mv' 32 5), (w' 33 (.p (.bin 0 .or (.t 32) (.c (u3' 33554432))))), (mv' 5 33)])
 .skip))))
 (.reg [(mv' 34 5), (fa' 35 4 2), (ld' 36 1 35), (w' 37 (.p (.bin 0 .shl (.t 36) (.c (.int .u64 (.lit 25)))))), (w' 38 (.p (.bin 0 .or (.t 34) (.t 37)))), (mv' 5 38)])))
 (.seq (.reg [(fa' 40 7 2), (ld' 41 1 40), (fa' 42 5 3), (ld' 43 1 42), (w' 44 (.call (.f 28) [(.t 41), (.t 43)])), (mv' 39 44), (ex' 45 0 39), (ex' 46 1 39), (mv' 6 45), (mv' 7 46)])
 (.seq (.reg [(mv' 47 5), (mv' 48 6), (w' 49 (.p (.bin 0 .or (.t 47) (.t 48)))), (fa' 50 1 3), (ld' 51 1 50), (w' 52 (.p (.conv .u32 (.t 51)))), (w' 53 (.p (.bin 0 .shl (.t 52) (.c (.int .u64 (.lit 7)))))), (w' 54 (.p (.bin 0 .or (.t 49) (.t 53)))), (fa' 55 2 3), (ld' 56 1 55), (w' 57 (.p (.conv .u32 (.t 56)))), (w' 58 (.p (.bin 0 .shl (.t 57) (.c (.int .u64 (.lit 15)))))), (w' 59 (.p (.bin 0 .or (.t 54) (.t 58)))), (fa' 60 3 3), (ld' 61 1 60), (w' 62 (.p (.conv .u32 (.t 61)))), (w' 63 (.p (.bin 0 .shl (.t 62) (.c (.int .u64 (.lit 20)))))), (w' 64 (.p (.bin 0 .or (.t 59) (.t 63)))), (fa' 65 4 3), (ld' 66 1 65), (w' 67 (.p (.conv .u32 (.t 66)))), (w' 68 (.p (.bin 0 .shl (.t 67) (.c (.int .u64 (.lit 20)))))), (w' 69 (.p (.bin 0 .or (.t 64) (.t 68)))), (mv' 4 69)])
 .ret))))))⟩
/- corral/mem.put -/
def af31 : AFunc := ⟨20, [],
 (.seq (.reg [(mv' 7 1), (w' 8 (.p (.mv (.c (i6' 0)))))])
 (.block 0 (.loop (.seq (.reg [(w' 9 (.p (.bin 0 .lss (.t 8) (.t 7))))])
 (.seq (.cond (.t 9) .skip
 (.exit 0))
 (.seq (.block 1 (.seq (.reg [(mv' 10 8), (mv' 6 10)])
 (.reg [(mv' 11 0), (mv' 12 6), (mv' 13 2), (mv' 14 6), (w' 15 (.p (.bin 0 .mul (.c (i6' 8)) (.t 14)))), (w' 16 (.p (.bin 0 .shr (.t 13) (.t 15)))), (w' 17 (.p (.conv .u8 (.t 16)))), (w' 18 (.p (.idxSl 1 (.t 11) (.t 12)))), (so' 1 18 17)])))
 (.reg [(w' 19 (.p (.bin 0 .add (.t 8) (.c (i6' 1))))), (mv' 8 19)])))))))⟩
/- corral/csr.New -/
def af32 : AFunc := ⟨6, [.cell 2 true 11],
 (.seq (.reg [(w' 2 (.newC [(bo' false), (u3' 0), (u3' 0), (u3' 0), (u3' 0), (u3' 0), (u3' 0), (u3' 0), (u3' 0), (u3' 0), (u3' 0)]))])
 (.seq (.reg [(mv' 3 0), (w' 4 (.p (.conv .u32 (.t 3)))), (w' 5 (.p (.build [(bo' false), (u3' 0), (u3' 0), (u3' 0), (u3' 0), (u3' 0), (u3' 0), (u3' 0), (u3' 0), (u3' 0), (u3' 0)] [(10, 1, (.t 4))]))), (so' 11 2 5)])
 .ret))⟩
/- (*corral/csr.File).Pending -/
def af33 : AFunc := ⟨30, [.t 2, .t 3],
 (.seq (.reg [(w' 2 (.p (.mv (.c (u3' 0))))), (w' 3 (.p (.mv (.c (bo' false)))))])
 (.seq (.seq (.draw [((mv' 4 0), []), ((nc' 5 4), []), ((fa' 6 9 5), []), ((ld' 7 1 6), []), ((mv' 8 0), []), ((nc' 9 8), []), ((fa' 10 3 9), []), ((ld' 11 1 10), []), ((w' 12 (.p (.bin 0 .and (.t 7) (.t 11)))), []), ((w' 13 (.p (.bin 0 .and (.t 12) (.c (u3' 8))))), []), ((w' 14 (.p (.bin 0 .eql (.t 13) (.c (u3' 0))))), []), ((mv' 15 14), []), ((gf' 16 15 (.p (.mv (.t 0)))), []), ((gf' 17 15 (.p (.nilCheck (.t 16)))), []), ((gf' 18 15 (.p (.fieldAddr 0 (.t 17)))), []), ((gf' 19 15 (.load false 1 (.t 18))), []), ((gf' 20 15 (.p (.un .not (.t 19)))), []), ((gf' 21 15 (.p (.mv (.t 20)))), []), ((gt' 22 21 (.p (.mv (.t 0)))), []), ((gt' 23 21 (.p (.nilCheck (.t 22)))), []), ((gt' 24 21 (.p (.fieldAddr 2 (.t 23)))), []), ((gt' 25 21 (.load false 1 (.t 24))), []), ((gt' 26 21 (.p (.bin 0 .and (.t 25) (.c (u3' 8))))), []), ((gt' 27 21 (.p (.bin 0 .eql (.t 26) (.c (u3' 0))))), []), ((gf' 28 15 (.pick (.t 21) (.t 27) (.c (bo' false)))), []), ((w' 29 (.pick (.t 15) (.c (bo' true)) (.t 28))), [])])
 (.cond (.t 29) (.seq (.reg [(w' 2 (.p (.mv (.c (u3' 0))))), (w' 3 (.p (.mv (.c (bo' false)))))])
 .ret)
 .skip))
 (.seq (.reg [(w' 2 (.p (.mv (.c (u3' 2147483651))))), (w' 3 (.p (.mv (.c (bo' true)))))])
 .ret)))⟩
/- (*corral/seq.Machine).draft -/
def af34 : AFunc := ⟨134, [.cell 4 true 13],
 (.seq (.reg [(w' 4 (.newC [(i6' 0), (u3' 0), (u3' 0), (u3' 0), (u3' 0), (u3' 0), .nilSlice, .nilSlice, (u3' 0), (u3' 0), (bo' false), (i6' 0), (i6' 0)]))])
 (.seq (.reg [(mv' 13 1), (nc' 14 13), (fa' 15 0 14), (ld' 16 1 15), (w' 17 (.call (.f 43) [(.t 16)])), (mv' 5 17)])
 (.block 0 (.loop (.block 1 (.seq (.reg [(mv' 18 5), (mv' 19 1), (nc' 20 19), (fa' 21 0 20), (ld' 22 1 21), (w' 23 (.call (.f 44) [(.t 18), (.t 22)])), (w' 6 (.newC [(i6' 0), (u3' 0), (u3' 0), (i6' 0), (bo' false), (i6' 0)])), (so' 6 6 23)])
 (.seq (.reg [(fa' 24 0 6), (ld' 25 1 24)])
 (.block 2 (.seq (.reg [(w' 27 (.p (.bin 0 .eql (.t 25) (.c (i6' 0))))), (mv' 26 27)])
 (.cond (.t 26) (.seq (.reg [(mv' 28 5), (nc' 29 28), (fa' 30 0 29), (lg' 31 13 30), (so' 13 4 31)])
 .ret)
 (.seq (.reg [(w' 33 (.p (.bin 0 .eql (.t 25) (.c (i6' 1))))), (mv' 32 33)])
 (.cond (.t 32) (.seq (.draw [((mv' 35 0), []), ((nc' 36 35), []), ((fa' 37 1 36), []), ((ld' 38 1 37), []), ((fa' 39 1 6), []), ((ld' 40 1 39), []), ((fa' 41 3 6), []), ((ld' 42 1 41), []), ((w' 43 (.call (.f 11) [(.t 38), (.t 40), (.t 42)])), []), ((mv' 34 43), []), ((ex' 44 0 34), []), ((ex' 45 1 34), []), ((mv' 7 44), []), ((mv' 8 45), [])])
 (.draw [((mv' 46 5), []), ((lg' 47 6 6), [6]), ((fa' 48 1 6), []), ((ld' 49 1 48), [6]), ((mv' 50 7), []), ((mv' 51 0), []), ((w' 52 (.call (.f 35) [(.t 51)])), []), ((w' 53 (.p (.build [(u3' 0), (u3' 0), (u3' 0), (i6' 0), (bo' false)] [(0, 1, (.t 49)), (1, 1, (.t 50)), (3, 1, (.t 52))]))), []), ((w' 54 (.call (.f 45) [(.t 46), (.t 47), (.t 53)])), [])]))
 (.seq (.reg [(w' 56 (.p (.bin 0 .eql (.t 25) (.c (i6' 2))))), (mv' 55 56)])
 (.cond (.t 55) (.seq (.draw [((mv' 57 5), []), ((lg' 58 6 6), []), ((mv' 59 0), []), ((nc' 60 59), []), ((fa' 61 2 60), []), ((ld' 62 1 61), []), ((w' 63 (.call (.f 46) [(.t 57), (.t 58), (.t 62)])), [])])
 (.reg [(mv' 64 0), (mv' 65 1), (fa' 66 1 6), (ld' 67 1 66), (fa' 68 3 6), (ld' 69 1 68), (fa' 70 2 6), (ld' 71 1 70), (w' 72 (.call (.f 47) [(.t 64), (.t 65), (.t 67), (.t 69), (.t 71)]))]))
 (.seq (.reg [(w' 74 (.p (.bin 0 .eql (.t 25) (.c (i6' 3))))), (mv' 73 74)])
 (.cond (.t 73) (.seq (.draw [((mv' 76 0), []), ((nc' 77 76), []), ((fa' 78 1 77), []), ((ld' 79 1 78), []), ((fa' 80 1 6), []), ((ld' 81 1 80), []), ((fa' 82 3 6), []), ((ld' 83 1 82), []), ((w' 84 (.call (.f 11) [(.t 79), (.t 81), (.t 83)])), []), ((mv' 75 84), []), ((ex' 85 0 75), []), ((ex' 86 1 75), []), ((mv' 9 85), []), ((mv' 10 86), [])])
 (.reg [(mv' 87 5), (mv' 88 9), (mv' 89 0), (w' 90 (.call (.f 35) [(.t 89)])), (w' 91 (.call (.f 48) [(.t 87), (.t 88), (.t 90)]))]))
 (.seq (.reg [(w' 93 (.p (.bin 0 .eql (.t 25) (.c (i6' 4))))), (mv' 92 93)])
 (.cond (.t 92) (.reg [(mv' 94 5), (mv' 95 0), (fa' 96 1 6), (ld' 97 1 96), (fa' 98 3 6), (ld' 99 1 98), (w' 100 (.call (.f 50) [(.t 95), (.t 97), (.t 99)])), (w' 101 (.call (.f 49) [(.t 94), (.t 100)]))])
 (.seq (.reg [(w' 103 (.p (.bin 0 .eql (.t 25) (.c (i6' 5))))), (mv' 102 103)])
 (.cond (.t 102) (.draw [((mv' 104 5), []), ((mv' 105 1), []), ((nc' 106 105), []), ((fa' 107 1 106), []), ((ld' 108 1 107), []), ((mv' 109 108), []), ((gt' 110 109 (.p (.mv (.t 1)))), []), ((gt' 111 109 (.p (.nilCheck (.t 110)))), []), ((gt' 112 109 (.p (.fieldAddr 2 (.t 111)))), []), ((gt' 113 109 (.load false 1 (.t 112))), []), ((gt' 114 109 (.p (.fieldAddr 1 (.t 6)))), []), ((gt' 115 109 (.load false 1 (.t 114))), []), ((gt' 116 109 (.p (.bin 0 .eql (.t 113) (.t 115)))), []), ((w' 117 (.pick (.t 109) (.t 116) (.c (bo' false)))), []), ((w' 118 (.call (.f 51) [(.t 104), (.t 117)])), [])])
 (.seq (.reg [(w' 120 (.p (.bin 0 .eql (.t 25) (.c (i6' 6))))), (mv' 119 120)])
 (.cond (.t 119) (.seq (.reg [(mv' 122 1), (nc' 123 122), (fa' 124 0 123), (ld' 125 1 124), (nc' 126 125), (fa' 127 0 126), (w' 128 (.call (.f 52) [(.t 127), (.c (i6' 836))])), (mv' 121 128), (ex' 129 0 121), (ex' 130 1 121), (mv' 11 129), (mv' 12 130)])
 (.reg [(mv' 131 5), (mv' 132 11), (w' 133 (.call (.f 49) [(.t 131), (.t 132)]))]))
 .skip))))))))))))))))))))))⟩
/- (*corral/seq.Machine).tick -/
def af35 : AFunc := ⟨14, [.t 2],
 (.seq (.reg [(w' 2 (.p (.mv (.c (i6' 0)))))])
 (.seq (.reg [(mv' 3 0), (nc' 4 3), (fa' 5 2 4), (ld' 6 1 5), (w' 7 (.p (.bin 0 .add (.t 6) (.c (i6' 1))))), (nc' 8 3), (fa' 9 2 8), (so' 1 9 7)])
 (.seq (.reg [(mv' 10 0), (nc' 11 10), (fa' 12 2 11), (ld' 13 1 12), (mv' 2 13)])
 .ret)))⟩
/- (*corral/hart.Hart).Replay -/
def af36 : AFunc := ⟨37, [.cell 4 true 7, .t 5],
 (.seq (.reg [(w' 3 (.box 13 (.t 1))), (w' 4 (.newC [(i6' 0), (u3' 0), (i6' 0), (u3' 0), (bo' false), (bo' false), (bo' false)])), (w' 5 (.p (.mv (.c .nilIface))))])
 (.seq (.reg [(mv' 10 0), (w' 11 (.call (.f 25) [(.t 10)])), (mv' 6 11)])
 (.seq (.reg [(mv' 13 6), (lg' 14 13 3), (w' 15 (.call (.f 53) [(.t 13), (.t 14)])), (mv' 12 15), (ex' 16 0 12), (ex' 17 1 12), (w' 7 (.newC [(i6' 0), (u3' 0), (u3' 0), (u3' 0), (u3' 0), (u3' 0), .nilSlice, .nilSlice, (u3' 0), (u3' 0), (bo' false), (i6' 0), (i6' 0)])), (so' 13 7 16), (mv' 8 17)])
 (.seq (.seq (.reg [(mv' 18 8), (w' 19 (.p (.un .not (.t 18)))), (mv' 20 19), (gf' 21 20 (.load true 13 (.t 7))), (gf' 22 20 (.load true 13 (.t 3))), (gf' 23 20 (.call (.f 54) [(.t 21), (.t 22)])), (gf' 24 20 (.p (.un .not (.t 23)))), (w' 25 (.pick (.t 20) (.c (bo' true)) (.t 24)))])
 (.cond (.t 25) (.seq (.draw [((w' 26 (.p (.build [(i6' 0), (u3' 0), (i6' 0), (u3' 0), (bo' false), (bo' false), (bo' false)] []))), []), ((w' 27 (.load false 1 (.g 2))), [2]), ((so' 7 4 26), []), ((mv' 5 27), [])])
 .ret)
 .skip))
 (.seq (.reg [(mv' 28 6), (lg' 29 13 7), (w' 30 (.call (.f 55) [(.t 28), (.t 29)])), (w' 9 (.newC [(i6' 0), (u3' 0), (i6' 0), (u3' 0), (bo' false), (bo' false), (bo' false)])), (so' 7 9 30)])
 (.seq (.reg [(mv' 31 0), (mv' 32 6), (nc' 33 32), (lg' 34 45 33), (nc' 35 31), (so' 45 35 34)])
 (.seq (.reg [(lg' 36 7 9), (so' 7 4 36), (w' 5 (.p (.mv (.c .nilIface))))])
 .ret)))))))⟩
/- (*corral/seq.Machine).effect -/
def af37 : AFunc := ⟨75, [],
 (.seq (.reg [(w' 6 (.box 13 (.t 2))), (w' 7 (.box 7 (.t 3)))])
 (.seq (.reg [(fa' 11 2 6), (ld' 12 1 11), (w' 13 (.call (.f 56) [(.t 12)])), (mv' 10 13), (ex' 14 0 10), (ex' 15 1 10), (w' 8 (.newC [(i6' 0), (i6' 0), (i6' 0), (i6' 0), (i6' 0), (u3' 0), (bo' false), (bo' false)])), (so' 8 8 14), (mv' 9 15)])
 (.seq (.seq (.reg [(fa' 16 0 6), (ld' 17 1 16), (w' 18 (.p (.bin 0 .neq (.t 17) (.c (i6' 1))))), (mv' 19 18), (gf' 20 19 (.p (.fieldAddr 0 (.t 8)))), (gf' 21 19 (.load false 1 (.t 20))), (gf' 22 19 (.p (.bin 0 .eql (.t 21) (.c (i6' 42))))), (w' 23 (.pick (.t 19) (.c (bo' true)) (.t 22))), (mv' 24 23), (gf' 25 24 (.p (.fieldAddr 0 (.t 8)))), (gf' 26 24 (.load false 1 (.t 25))), (gf' 27 24 (.p (.bin 0 .eql (.t 26) (.c (i6' 60))))), (w' 28 (.pick (.t 24) (.c (bo' true)) (.t 27)))])
 (.cond (.t 28) (.reg [(mv' 29 1), (nc' 30 29), (fa' 31 1 30), ⟨none, (.store 1 (.t 31) (.c (bo' false))), none⟩])
 .skip))
 (.seq (.seq (.reg [(fa' 32 0 7), (ld' 33 1 32), (w' 34 (.p (.bin 0 .eql (.t 33) (.c (i6' 2))))), (mv' 35 34), (gf' 36 35 (.p (.fieldAddr 0 (.t 7)))), (gf' 37 35 (.load false 1 (.t 36))), (gf' 38 35 (.p (.bin 0 .eql (.t 37) (.c (i6' 3))))), (w' 39 (.pick (.t 35) (.c (bo' true)) (.t 38)))])
 (.cond (.t 39) (.reg [(mv' 40 0), (mv' 41 1), (fa' 42 1 7), (ld' 43 1 42), (fa' 44 2 7), (ld' 45 1 44), (fa' 46 3 7), (ld' 47 1 46), (w' 48 (.call (.f 47) [(.t 40), (.t 41), (.t 43), (.t 45), (.t 47)]))])
 .skip))
 (.seq (.seq (.reg [(fa' 49 0 6), (ld' 50 1 49), (w' 51 (.p (.bin 0 .eql (.t 50) (.c (i6' 1))))), (mv' 52 51), (gt' 53 52 (.p (.fieldAddr 0 (.t 8)))), (gt' 54 52 (.load false 1 (.t 53))), (gt' 55 52 (.p (.bin 0 .eql (.t 54) (.c (i6' 59))))), (w' 56 (.pick (.t 52) (.t 55) (.c (bo' false))))])
 (.cond (.t 56) (.draw [((mv' 57 1), []), ((mv' 58 1), []), ((fa' 59 4 6), []), ((ld' 60 1 59), [6]), ((nc' 61 57), []), ((fa' 62 1 61), []), (⟨none, (.store 1 (.t 62) (.c (bo' true))), none⟩, []), ((nc' 63 58), []), ((fa' 64 2 63), []), ((so' 1 64 60), [])])
 .skip))
 (.reg [(mv' 65 1), (fa' 66 6 7), (ld' 67 1 66), (mv' 68 67), (gt' 69 68 (.p (.mv (.t 1)))), (gt' 70 68 (.call (.f 57) [(.t 69)])), (gt' 71 68 (.p (.un .not (.t 70)))), (w' 72 (.pick (.t 68) (.t 71) (.c (bo' false)))), (nc' 73 65), (fa' 74 3 73), (so' 1 74 72)]))))))⟩
/- slices.Clone[[]byte,byte] -/
def af38 : AFunc := ⟨8, [.t 2],
 (.seq (.reg [(w' 2 (.p (.mv (.c .nilSlice))))])
 (.seq (.seq (.reg [(mv' 3 0), (w' 4 (.p (.nilEq 1 false (.t 3) (.c .nilSlice))))])
 (.cond (.t 4) (.seq (.reg [(w' 2 (.p (.mv (.c .nilSlice))))])
 .ret)
 .skip))
 (.seq (.reg [(w' 5 (.mkArr 1 0 [(.int .u8 (.lit 0))] [])), (mv' 6 0), (w' 7 (.append 1 1 (.t 5) (.t 6))), (mv' 2 7)])
 .ret)))⟩
/- corral/mem.fair -/
def af39 : AFunc := ⟨22, [.t 4],
 (.seq (.reg [(w' 4 (.p (.mv (.c (bo' false)))))])
 (.seq (.reg [(mv' 5 1), (w' 6 (.p (.bin 0 .eql (.t 5) (.c (i6' 1))))), (mv' 7 6), (gf' 8 7 (.p (.mv (.t 1)))), (gf' 9 7 (.p (.bin 0 .eql (.t 8) (.c (i6' 2))))), (w' 10 (.pick (.t 7) (.c (bo' true)) (.t 9))), (mv' 11 10), (gf' 12 11 (.p (.mv (.t 1)))), (gf' 13 11 (.p (.bin 0 .eql (.t 12) (.c (i6' 4))))), (w' 14 (.pick (.t 11) (.c (bo' true)) (.t 13))), (mv' 15 14), (gt' 16 15 (.p (.mv (.t 0)))), (gt' 17 15 (.p (.mv (.t 1)))), (gt' 18 15 (.p (.conv .u32 (.t 17)))), (gt' 19 15 (.p (.bin 0 .rem (.t 16) (.t 18)))), (gt' 20 15 (.p (.bin 0 .eql (.t 19) (.c (u3' 0))))), (w' 21 (.pick (.t 15) (.t 20) (.c (bo' false)))), (mv' 4 21)])
 .ret))⟩
/- corral/word.mask -/
def af40 : AFunc := ⟨9, [.t 2],
 (.seq (.reg [(w' 2 (.p (.mv (.c (u3' 0)))))])
 (.seq (.seq (.reg [(mv' 3 0), (w' 4 (.p (.bin 0 .geq (.t 3) (.c (i6' 32)))))])
 (.cond (.t 4) (.seq (.reg [(w' 2 (.p (.mv (.c (u3' 4294967295)))))])
 .ret)
 .skip))
 (.seq (.reg [(mv' 5 0), (w' 6 (.p (.mx (.t 5) (.c (i6' 0))))), (w' 7 (.p (.bin 0 .shl (.c (u3' 1)) (.t 6)))), (w' 8 (.p (.bin 0 .sub (.t 7) (.c (u3' 1))))), (mv' 2 8)])
 .ret)))⟩
/- corral/corralref1.Rows -/
def af41 : AFunc := ⟨71, [.t 0],
 (.seq (.reg [(w' 0 (.p (.mv (.c .nilSlice))))])
 (.seq (.reg [⟨(some 1), (.call (.f 58) [(.c (i6' 1)), (.c (.str ⟨#[108, 117, 105]⟩)), (.c (i6' 55)), (.c (.int .i64 (.lit (-1)))), (.c (.int .i64 (.lit (-1)))), (.c (.int .u8 (.lit 85))), (.c (.str ⟨#[100]⟩))]), none⟩, ⟨(some 2), (.call (.f 58) [(.c (i6' 2)), (.c (.str ⟨#[97, 117, 105, 112, 99]⟩)), (.c (i6' 23)), (.c (.int .i64 (.lit (-1)))), (.c (.int .i64 (.lit (-1)))), (.c (.int .u8 (.lit 85))), (.c (.str ⟨#[100]⟩))]), none⟩, ⟨(some 3), (.call (.f 58) [(.c (i6' 3)), (.c (.str ⟨#[106, 97, 108]⟩)), (.c (i6' 111)), (.c (.int .i64 (.lit (-1)))), (.c (.int .i64 (.lit (-1)))), (.c (.int .u8 (.lit 74))), (.c (.str ⟨#[100]⟩))]), none⟩, ⟨(some 4), (.call (.f 58) [(.c (i6' 4)), (.c (.str ⟨#[106, 97, 108, 114]⟩)), (.c (i6' 103)), (.c (i6' 0)), (.c (.int .i64 (.lit (-1)))), (.c (.int .u8 (.lit 73))), (.c (.str ⟨#[100, 97]⟩))]), none⟩, ⟨(some 5), (.call (.f 58) [(.c (i6' 5)), (.c (.str ⟨#[98, 101, 113]⟩)), (.c (i6' 99)), (.c (i6' 0)), (.c (.int .i64 (.lit (-1)))), (.c (.int .u8 (.lit 66))), (.c (.str ⟨#[97, 98]⟩))]), none⟩, ⟨(some 6), (.call (.f 58) [(.c (i6' 6)), (.c (.str ⟨#[98, 110, 101]⟩)), (.c (i6' 99)), (.c (i6' 1)), (.c (.int .i64 (.lit (-1)))), (.c (.int .u8 (.lit 66))), (.c (.str ⟨#[97, 98]⟩))]), none⟩, ⟨(some 7), (.call (.f 58) [(.c (i6' 7)), (.c (.str ⟨#[98, 108, 116]⟩)), (.c (i6' 99)), (.c (i6' 4)), (.c (.int .i64 (.lit (-1)))), (.c (.int .u8 (.lit 66))), (.c (.str ⟨#[97, 98]⟩))]), none⟩, ⟨(some 8), (.call (.f 58) [(.c (i6' 8)), (.c (.str ⟨#[98, 103, 101]⟩)), (.c (i6' 99)), (.c (i6' 5)), (.c (.int .i64 (.lit (-1)))), (.c (.int .u8 (.lit 66))), (.c (.str ⟨#[97, 98]⟩))]), none⟩, ⟨(some 9), (.call (.f 58) [(.c (i6' 9)), (.c (.str ⟨#[98, 108, 116, 117]⟩)), (.c (i6' 99)), (.c (i6' 6)), (.c (.int .i64 (.lit (-1)))), (.c (.int .u8 (.lit 66))), (.c (.str ⟨#[97, 98]⟩))]), none⟩, ⟨(some 10), (.call (.f 58) [(.c (i6' 10)), (.c (.str ⟨#[98, 103, 101, 117]⟩)), (.c (i6' 99)), (.c (i6' 7)), (.c (.int .i64 (.lit (-1)))), (.c (.int .u8 (.lit 66))), (.c (.str ⟨#[97, 98]⟩))]), none⟩, ⟨(some 11), (.call (.f 58) [(.c (i6' 11)), (.c (.str ⟨#[108, 98]⟩)), (.c (i6' 3)), (.c (i6' 0)), (.c (.int .i64 (.lit (-1)))), (.c (.int .u8 (.lit 73))), (.c (.str ⟨#[100, 97]⟩))]), none⟩, ⟨(some 12), (.call (.f 58) [(.c (i6' 12)), (.c (.str ⟨#[108, 104]⟩)), (.c (i6' 3)), (.c (i6' 1)), (.c (.int .i64 (.lit (-1)))), (.c (.int .u8 (.lit 73))), (.c (.str ⟨#[100, 97]⟩))]), none⟩, ⟨(some 13), (.call (.f 58) [(.c (i6' 13)), (.c (.str ⟨#[108, 119]⟩)), (.c (i6' 3)), (.c (i6' 2)), (.c (.int .i64 (.lit (-1)))), (.c (.int .u8 (.lit 73))), (.c (.str ⟨#[100, 97]⟩))]), none⟩, ⟨(some 14), (.call (.f 58) [(.c (i6' 14)), (.c (.str ⟨#[108, 98, 117]⟩)), (.c (i6' 3)), (.c (i6' 4)), (.c (.int .i64 (.lit (-1)))), (.c (.int .u8 (.lit 73))), (.c (.str ⟨#[100, 97]⟩))]), none⟩, ⟨(some 15), (.call (.f 58) [(.c (i6' 15)), (.c (.str ⟨#[108, 104, 117]⟩)), (.c (i6' 3)), (.c (i6' 5)), (.c (.int .i64 (.lit (-1)))), (.c (.int .u8 (.lit 73))), (.c (.str ⟨#[100, 97]⟩))]), none⟩, ⟨(some 16), (.call (.f 58) [(.c (i6' 16)), (.c (.str ⟨#[115, 98]⟩)), (.c (i6' 35)), (.c (i6' 0)), (.c (.int .i64 (.lit (-1)))), (.c (.int .u8 (.lit 83))), (.c (.str ⟨#[97, 98]⟩))]), none⟩, ⟨(some 17), (.call (.f 58) [(.c (i6' 17)), (.c (.str ⟨#[115, 104]⟩)), (.c (i6' 35)), (.c (i6' 1)), (.c (.int .i64 (.lit (-1)))), (.c (.int .u8 (.lit 83))), (.c (.str ⟨#[97, 98]⟩))]), none⟩, ⟨(some 18), (.call (.f 58) [(.c (i6' 18)), (.c (.str ⟨#[115, 119]⟩)), (.c (i6' 35)), (.c (i6' 2)), (.c (.int .i64 (.lit (-1)))), (.c (.int .u8 (.lit 83))), (.c (.str ⟨#[97, 98]⟩))]), none⟩, ⟨(some 19), (.call (.f 58) [(.c (i6' 19)), (.c (.str ⟨#[97, 100, 100, 105]⟩)), (.c (i6' 19)), (.c (i6' 0)), (.c (.int .i64 (.lit (-1)))), (.c (.int .u8 (.lit 73))), (.c (.str ⟨#[100, 97]⟩))]), none⟩, ⟨(some 20), (.call (.f 58) [(.c (i6' 20)), (.c (.str ⟨#[115, 108, 116, 105]⟩)), (.c (i6' 19)), (.c (i6' 2)), (.c (.int .i64 (.lit (-1)))), (.c (.int .u8 (.lit 73))), (.c (.str ⟨#[100, 97]⟩))]), none⟩, ⟨(some 21), (.call (.f 58) [(.c (i6' 21)), (.c (.str ⟨#[115, 108, 116, 105, 117]⟩)), (.c (i6' 19)), (.c (i6' 3)), (.c (.int .i64 (.lit (-1)))), (.c (.int .u8 (.lit 73))), (.c (.str ⟨#[100, 97]⟩))]), none⟩, ⟨(some 22), (.call (.f 58) [(.c (i6' 22)), (.c (.str ⟨#[120, 111, 114, 105]⟩)), (.c (i6' 19)), (.c (i6' 4)), (.c (.int .i64 (.lit (-1)))), (.c (.int .u8 (.lit 73))), (.c (.str ⟨#[100, 97]⟩))]), none⟩, ⟨(some 23), (.call (.f 58) [(.c (i6' 23)), (.c (.str ⟨#[111, 114, 105]⟩)), (.c (i6' 19)), (.c (i6' 6)), (.c (.int .i64 (.lit (-1)))), (.c (.int .u8 (.lit 73))), (.c (.str ⟨#[100, 97]⟩))]), none⟩, ⟨(some 24), (.call (.f 58) [(.c (i6' 24)), (.c (.str ⟨#[97, 110, 100, 105]⟩)), (.c (i6' 19)), (.c (i6' 7)), (.c (.int .i64 (.lit (-1)))), (.c (.int .u8 (.lit 73))), (.c (.str ⟨#[100, 97]⟩))]), none⟩, ⟨(some 25), (.call (.f 58) [(.c (i6' 25)), (.c (.str ⟨#[115, 108, 108, 105]⟩)), (.c (i6' 19)), (.c (i6' 1)), (.c (i6' 0)), (.c (.int .u8 (.lit 90))), (.c (.str ⟨#[100, 97]⟩))]), none⟩, ⟨(some 26), (.call (.f 58) [(.c (i6' 26)), (.c (.str ⟨#[115, 114, 108, 105]⟩)), (.c (i6' 19)), (.c (i6' 5)), (.c (i6' 0)), (.c (.int .u8 (.lit 90))), (.c (.str ⟨#[100, 97]⟩))]), none⟩, ⟨(some 27), (.call (.f 58) [(.c (i6' 27)), (.c (.str ⟨#[115, 114, 97, 105]⟩)), (.c (i6' 19)), (.c (i6' 5)), (.c (i6' 32)), (.c (.int .u8 (.lit 90))), (.c (.str ⟨#[100, 97]⟩))]), none⟩, ⟨(some 28), (.call (.f 58) [(.c (i6' 28)), (.c (.str ⟨#[97, 100, 100]⟩)), (.c (i6' 51)), (.c (i6' 0)), (.c (i6' 0)), (.c (.int .u8 (.lit 0))), (.c (.str ⟨#[100, 97, 98]⟩))]), none⟩, ⟨(some 29), (.call (.f 58) [(.c (i6' 29)), (.c (.str ⟨#[115, 117, 98]⟩)), (.c (i6' 51)), (.c (i6' 0)), (.c (i6' 32)), (.c (.int .u8 (.lit 0))), (.c (.str ⟨#[100, 97, 98]⟩))]), none⟩, ⟨(some 30), (.call (.f 58) [(.c (i6' 30)), (.c (.str ⟨#[115, 108, 108]⟩)), (.c (i6' 51)), (.c (i6' 1)), (.c (i6' 0)), (.c (.int .u8 (.lit 0))), (.c (.str ⟨#[100, 97, 98]⟩))]), none⟩, ⟨(some 31), (.call (.f 58) [(.c (i6' 31)), (.c (.str ⟨#[115, 108, 116]⟩)), (.c (i6' 51)), (.c (i6' 2)), (.c (i6' 0)), (.c (.int .u8 (.lit 0))), (.c (.str ⟨#[100, 97, 98]⟩))]), none⟩, ⟨(some 32), (.call (.f 58) [(.c (i6' 32)), (.c (.str ⟨#[115, 108, 116, 117]⟩)), (.c (i6' 51)), (.c (i6' 3)), (.c (i6' 0)), (.c (.int .u8 (.lit 0))), (.c (.str ⟨#[100, 97, 98]⟩))]), none⟩, ⟨(some 33), (.call (.f 58) [(.c (i6' 33)), (.c (.str ⟨#[120, 111, 114]⟩)), (.c (i6' 51)), (.c (i6' 4)), (.c (i6' 0)), (.c (.int .u8 (.lit 0))), (.c (.str ⟨#[100, 97, 98]⟩))]), none⟩, ⟨(some 34), (.call (.f 58) [(.c (i6' 34)), (.c (.str ⟨#[115, 114, 108]⟩)), (.c (i6' 51)), (.c (i6' 5)), (.c (i6' 0)), (.c (.int .u8 (.lit 0))), (.c (.str ⟨#[100, 97, 98]⟩))]), none⟩, ⟨(some 35), (.call (.f 58) [(.c (i6' 35)), (.c (.str ⟨#[115, 114, 97]⟩)), (.c (i6' 51)), (.c (i6' 5)), (.c (i6' 32)), (.c (.int .u8 (.lit 0))), (.c (.str ⟨#[100, 97, 98]⟩))]), none⟩, ⟨(some 36), (.call (.f 58) [(.c (i6' 36)), (.c (.str ⟨#[111, 114]⟩)), (.c (i6' 51)), (.c (i6' 6)), (.c (i6' 0)), (.c (.int .u8 (.lit 0))), (.c (.str ⟨#[100, 97, 98]⟩))]), none⟩, ⟨(some 37), (.call (.f 58) [(.c (i6' 37)), (.c (.str ⟨#[97, 110, 100]⟩)), (.c (i6' 51)), (.c (i6' 7)), (.c (i6' 0)), (.c (.int .u8 (.lit 0))), (.c (.str ⟨#[100, 97, 98]⟩))]), none⟩, ⟨(some 38), (.call (.f 58) [(.c (i6' 38)), (.c (.str ⟨#[102, 101, 110, 99, 101]⟩)), (.c (i6' 15)), (.c (i6' 0)), (.c (.int .i64 (.lit (-1)))), (.c (.int .u8 (.lit 70))), (.c (.str ⟨#[]⟩))]), none⟩, ⟨(some 39), (.call (.f 59) [(.c (i6' 39)), (.c (.str ⟨#[102, 101, 110, 99, 101, 46, 105]⟩)), (.c (u3' 4111))]), none⟩, ⟨(some 40), (.call (.f 59) [(.c (i6' 40)), (.c (.str ⟨#[101, 99, 97, 108, 108]⟩)), (.c (u3' 115))]), none⟩, ⟨(some 41), (.call (.f 59) [(.c (i6' 41)), (.c (.str ⟨#[101, 98, 114, 101, 97, 107]⟩)), (.c (u3' 1048691))]), none⟩, ⟨(some 42), (.call (.f 59) [(.c (i6' 42)), (.c (.str ⟨#[109, 114, 101, 116]⟩)), (.c (u3' 807403635))]), none⟩, ⟨(some 43), (.call (.f 59) [(.c (i6' 43)), (.c (.str ⟨#[119, 102, 105]⟩)), (.c (u3' 273678451))]), none⟩, ⟨(some 44), (.call (.f 58) [(.c (i6' 44)), (.c (.str ⟨#[115, 102, 101, 110, 99, 101, 46, 118, 109, 97]⟩)), (.c (i6' 115)), (.c (i6' 0)), (.c (i6' 9)), (.c (.int .u8 (.lit 0))), (.c (.str ⟨#[97, 98]⟩))]), none⟩, ⟨(some 45), (.call (.f 58) [(.c (i6' 45)), (.c (.str ⟨#[99, 115, 114, 114, 119]⟩)), (.c (i6' 115)), (.c (i6' 1)), (.c (.int .i64 (.lit (-1)))), (.c (.int .u8 (.lit 0))), (.c (.str ⟨#[100, 97, 99]⟩))]), none⟩, ⟨(some 46), (.call (.f 58) [(.c (i6' 46)), (.c (.str ⟨#[99, 115, 114, 114, 115]⟩)), (.c (i6' 115)), (.c (i6' 2)), (.c (.int .i64 (.lit (-1)))), (.c (.int .u8 (.lit 0))), (.c (.str ⟨#[100, 97, 99]⟩))]), none⟩, ⟨(some 47), (.call (.f 58) [(.c (i6' 47)), (.c (.str ⟨#[99, 115, 114, 114, 99]⟩)), (.c (i6' 115)), (.c (i6' 3)), (.c (.int .i64 (.lit (-1)))), (.c (.int .u8 (.lit 0))), (.c (.str ⟨#[100, 97, 99]⟩))]), none⟩, ⟨(some 48), (.call (.f 58) [(.c (i6' 48)), (.c (.str ⟨#[99, 115, 114, 114, 119, 105]⟩)), (.c (i6' 115)), (.c (i6' 5)), (.c (.int .i64 (.lit (-1)))), (.c (.int .u8 (.lit 67))), (.c (.str ⟨#[100, 99]⟩))]), none⟩, ⟨(some 49), (.call (.f 58) [(.c (i6' 49)), (.c (.str ⟨#[99, 115, 114, 114, 115, 105]⟩)), (.c (i6' 115)), (.c (i6' 6)), (.c (.int .i64 (.lit (-1)))), (.c (.int .u8 (.lit 67))), (.c (.str ⟨#[100, 99]⟩))]), none⟩, ⟨(some 50), (.call (.f 58) [(.c (i6' 50)), (.c (.str ⟨#[99, 115, 114, 114, 99, 105]⟩)), (.c (i6' 115)), (.c (i6' 7)), (.c (.int .i64 (.lit (-1)))), (.c (.int .u8 (.lit 67))), (.c (.str ⟨#[100, 99]⟩))]), none⟩, ⟨(some 51), (.call (.f 58) [(.c (i6' 51)), (.c (.str ⟨#[109, 117, 108]⟩)), (.c (i6' 51)), (.c (i6' 0)), (.c (i6' 1)), (.c (.int .u8 (.lit 0))), (.c (.str ⟨#[100, 97, 98]⟩))]), none⟩, ⟨(some 52), (.call (.f 58) [(.c (i6' 52)), (.c (.str ⟨#[109, 117, 108, 104]⟩)), (.c (i6' 51)), (.c (i6' 1)), (.c (i6' 1)), (.c (.int .u8 (.lit 0))), (.c (.str ⟨#[100, 97, 98]⟩))]), none⟩, ⟨(some 53), (.call (.f 58) [(.c (i6' 53)), (.c (.str ⟨#[109, 117, 108, 104, 115, 117]⟩)), (.c (i6' 51)), (.c (i6' 2)), (.c (i6' 1)), (.c (.int .u8 (.lit 0))), (.c (.str ⟨#[100, 97, 98]⟩))]), none⟩, ⟨(some 54), (.call (.f 58) [(.c (i6' 54)), (.c (.str ⟨#[109, 117, 108, 104, 117]⟩)), (.c (i6' 51)), (.c (i6' 3)), (.c (i6' 1)), (.c (.int .u8 (.lit 0))), (.c (.str ⟨#[100, 97, 98]⟩))]), none⟩, ⟨(some 55), (.call (.f 58) [(.c (i6' 55)), (.c (.str ⟨#[100, 105, 118]⟩)), (.c (i6' 51)), (.c (i6' 4)), (.c (i6' 1)), (.c (.int .u8 (.lit 0))), (.c (.str ⟨#[100, 97, 98]⟩))]), none⟩, ⟨(some 56), (.call (.f 58) [(.c (i6' 56)), (.c (.str ⟨#[100, 105, 118, 117]⟩)), (.c (i6' 51)), (.c (i6' 5)), (.c (i6' 1)), (.c (.int .u8 (.lit 0))), (.c (.str ⟨#[100, 97, 98]⟩))]), none⟩, ⟨(some 57), (.call (.f 58) [(.c (i6' 57)), (.c (.str ⟨#[114, 101, 109]⟩)), (.c (i6' 51)), (.c (i6' 6)), (.c (i6' 1)), (.c (.int .u8 (.lit 0))), (.c (.str ⟨#[100, 97, 98]⟩))]), none⟩, ⟨(some 58), (.call (.f 58) [(.c (i6' 58)), (.c (.str ⟨#[114, 101, 109, 117]⟩)), (.c (i6' 51)), (.c (i6' 7)), (.c (i6' 1)), (.c (.int .u8 (.lit 0))), (.c (.str ⟨#[100, 97, 98]⟩))]), none⟩, ⟨(some 59), (.call (.f 58) [(.c (i6' 59)), (.c (.str ⟨#[108, 114, 46, 119]⟩)), (.c (i6' 47)), (.c (i6' 2)), (.c (i6' 2)), (.c (.int .u8 (.lit 0))), (.c (.str ⟨#[100, 97, 112]⟩))]), none⟩, ⟨(some 60), (.call (.f 58) [(.c (i6' 60)), (.c (.str ⟨#[115, 99, 46, 119]⟩)), (.c (i6' 47)), (.c (i6' 2)), (.c (i6' 3)), (.c (.int .u8 (.lit 0))), (.c (.str ⟨#[100, 97, 98, 112]⟩))]), none⟩, ⟨(some 61), (.call (.f 58) [(.c (i6' 61)), (.c (.str ⟨#[97, 109, 111, 115, 119, 97, 112, 46, 119]⟩)), (.c (i6' 47)), (.c (i6' 2)), (.c (i6' 1)), (.c (.int .u8 (.lit 0))), (.c (.str ⟨#[100, 97, 98, 112]⟩))]), none⟩, ⟨(some 62), (.call (.f 58) [(.c (i6' 62)), (.c (.str ⟨#[97, 109, 111, 97, 100, 100, 46, 119]⟩)), (.c (i6' 47)), (.c (i6' 2)), (.c (i6' 0)), (.c (.int .u8 (.lit 0))), (.c (.str ⟨#[100, 97, 98, 112]⟩))]), none⟩, ⟨(some 63), (.call (.f 58) [(.c (i6' 63)), (.c (.str ⟨#[97, 109, 111, 120, 111, 114, 46, 119]⟩)), (.c (i6' 47)), (.c (i6' 2)), (.c (i6' 4)), (.c (.int .u8 (.lit 0))), (.c (.str ⟨#[100, 97, 98, 112]⟩))]), none⟩, ⟨(some 64), (.call (.f 58) [(.c (i6' 64)), (.c (.str ⟨#[97, 109, 111, 97, 110, 100, 46, 119]⟩)), (.c (i6' 47)), (.c (i6' 2)), (.c (i6' 12)), (.c (.int .u8 (.lit 0))), (.c (.str ⟨#[100, 97, 98, 112]⟩))]), none⟩, ⟨(some 65), (.call (.f 58) [(.c (i6' 65)), (.c (.str ⟨#[97, 109, 111, 111, 114, 46, 119]⟩)), (.c (i6' 47)), (.c (i6' 2)), (.c (i6' 8)), (.c (.int .u8 (.lit 0))), (.c (.str ⟨#[100, 97, 98, 112]⟩))]), none⟩, ⟨(some 66), (.call (.f 58) [(.c (i6' 66)), (.c (.str ⟨#[97, 109, 111, 109, 105, 110, 46, 119]⟩)), (.c (i6' 47)), (.c (i6' 2)), (.c (i6' 16)), (.c (.int .u8 (.lit 0))), (.c (.str ⟨#[100, 97, 98, 112]⟩))]), none⟩, ⟨(some 67), (.call (.f 58) [(.c (i6' 67)), (.c (.str ⟨#[97, 109, 111, 109, 97, 120, 46, 119]⟩)), (.c (i6' 47)), (.c (i6' 2)), (.c (i6' 20)), (.c (.int .u8 (.lit 0))), (.c (.str ⟨#[100, 97, 98, 112]⟩))]), none⟩, ⟨(some 68), (.call (.f 58) [(.c (i6' 68)), (.c (.str ⟨#[97, 109, 111, 109, 105, 110, 117, 46, 119]⟩)), (.c (i6' 47)), (.c (i6' 2)), (.c (i6' 24)), (.c (.int .u8 (.lit 0))), (.c (.str ⟨#[100, 97, 98, 112]⟩))]), none⟩, ⟨(some 69), (.call (.f 58) [(.c (i6' 69)), (.c (.str ⟨#[97, 109, 111, 109, 97, 120, 117, 46, 119]⟩)), (.c (i6' 47)), (.c (i6' 2)), (.c (i6' 28)), (.c (.int .u8 (.lit 0))), (.c (.str ⟨#[100, 97, 98, 112]⟩))]), none⟩, ⟨(some 70), (.mkArr 14 69 [(i6' 0), (.str ⟨#[]⟩), (u3' 0), (u3' 0), (u3' 0), (bo' false), (bo' false), (.int .u8 (.lit 0)), (bo' false), (bo' false), (bo' false), (bo' false), (u3' 0), (bo' false)] [(0, 14, (.t 1)), (14, 14, (.t 2)), (28, 14, (.t 3)), (42, 14, (.t 4)), (56, 14, (.t 5)), (70, 14, (.t 6)), (84, 14, (.t 7)), (98, 14, (.t 8)), (112, 14, (.t 9)), (126, 14, (.t 10)), (140, 14, (.t 11)), (154, 14, (.t 12)), (168, 14, (.t 13)), (182, 14, (.t 14)), (196, 14, (.t 15)), (210, 14, (.t 16)), (224, 14, (.t 17)), (238, 14, (.t 18)), (252, 14, (.t 19)), (266, 14, (.t 20)), (280, 14, (.t 21)), (294, 14, (.t 22)), (308, 14, (.t 23)), (322, 14, (.t 24)), (336, 14, (.t 25)), (350, 14, (.t 26)), (364, 14, (.t 27)), (378, 14, (.t 28)), (392, 14, (.t 29)), (406, 14, (.t 30)), (420, 14, (.t 31)), (434, 14, (.t 32)), (448, 14, (.t 33)), (462, 14, (.t 34)), (476, 14, (.t 35)), (490, 14, (.t 36)), (504, 14, (.t 37)), (518, 14, (.t 38)), (532, 14, (.t 39)), (546, 14, (.t 40)), (560, 14, (.t 41)), (574, 14, (.t 42)), (588, 14, (.t 43)), (602, 14, (.t 44)), (616, 14, (.t 45)), (630, 14, (.t 46)), (644, 14, (.t 47)), (658, 14, (.t 48)), (672, 14, (.t 49)), (686, 14, (.t 50)), (700, 14, (.t 51)), (714, 14, (.t 52)), (728, 14, (.t 53)), (742, 14, (.t 54)), (756, 14, (.t 55)), (770, 14, (.t 56)), (784, 14, (.t 57)), (798, 14, (.t 58)), (812, 14, (.t 59)), (826, 14, (.t 60)), (840, 14, (.t 61)), (854, 14, (.t 62)), (868, 14, (.t 63)), (882, 14, (.t 64)), (896, 14, (.t 65)), (910, 14, (.t 66)), (924, 14, (.t 67)), (938, 14, (.t 68)), (952, 14, (.t 69))]), none⟩, (mv' 0 70)])
 .ret))⟩
/- corral/corralref1.Lay -/
def af42 : AFunc := ⟨65, [.t 4, .t 5],
 (.seq (.reg [(w' 4 (.p (.mv (.c (u3' 0))))), (w' 5 (.p (.mv (.c (bo' false)))))])
 (.seq (.reg [(w' 6 (.p (.mv (.c (u3' 0)))))])
 (.seq (.seq (.reg [(mv' 7 0)])
 (.block 0 (.seq (.reg [(w' 9 (.p (.bin 0 .eql (.t 7) (.c (.int .u8 (.lit 73)))))), (mv' 8 9)])
 (.cond (.t 8) (.reg [(mv' 10 1), (w' 11 (.call (.f 60) [(.t 10), (.c (i6' 20)), (.c (i6' 12))])), (mv' 6 11)])
 (.seq (.reg [(w' 13 (.p (.bin 0 .eql (.t 7) (.c (.int .u8 (.lit 83)))))), (mv' 12 13)])
 (.cond (.t 12) (.reg [(mv' 14 1), (w' 15 (.p (.bin 0 .shr (.t 14) (.c (.int .u64 (.lit 5)))))), (w' 16 (.call (.f 60) [(.t 15), (.c (i6' 25)), (.c (i6' 7))])), (mv' 17 1), (w' 18 (.call (.f 60) [(.t 17), (.c (i6' 7)), (.c (i6' 5))])), (w' 19 (.p (.bin 0 .or (.t 16) (.t 18)))), (mv' 6 19)])
 (.seq (.reg [(w' 21 (.p (.bin 0 .eql (.t 7) (.c (.int .u8 (.lit 66)))))), (mv' 20 21)])
 (.cond (.t 20) (.reg [(mv' 22 1), (w' 23 (.p (.bin 0 .shr (.t 22) (.c (.int .u64 (.lit 12)))))), (w' 24 (.call (.f 60) [(.t 23), (.c (i6' 31)), (.c (i6' 1))])), (mv' 25 1), (w' 26 (.p (.bin 0 .shr (.t 25) (.c (.int .u64 (.lit 11)))))), (w' 27 (.call (.f 60) [(.t 26), (.c (i6' 7)), (.c (i6' 1))])), (w' 28 (.p (.bin 0 .or (.t 24) (.t 27)))), (mv' 29 1), (w' 30 (.p (.bin 0 .shr (.t 29) (.c (.int .u64 (.lit 5)))))), (w' 31 (.call (.f 60) [(.t 30), (.c (i6' 25)), (.c (i6' 6))])), (w' 32 (.p (.bin 0 .or (.t 28) (.t 31)))), (mv' 33 1), (w' 34 (.p (.bin 0 .shr (.t 33) (.c (.int .u64 (.lit 1)))))), (w' 35 (.call (.f 60) [(.t 34), (.c (i6' 8)), (.c (i6' 4))])), (w' 36 (.p (.bin 0 .or (.t 32) (.t 35)))), (mv' 6 36)])
 (.seq (.reg [(w' 38 (.p (.bin 0 .eql (.t 7) (.c (.int .u8 (.lit 85)))))), (mv' 37 38)])
 (.cond (.t 37) (.reg [(mv' 39 1), (w' 40 (.p (.bin 0 .shr (.t 39) (.c (.int .u64 (.lit 12)))))), (w' 41 (.call (.f 60) [(.t 40), (.c (i6' 12)), (.c (i6' 20))])), (mv' 6 41)])
 (.seq (.reg [(w' 43 (.p (.bin 0 .eql (.t 7) (.c (.int .u8 (.lit 74)))))), (mv' 42 43)])
 (.cond (.t 42) (.reg [(mv' 44 1), (w' 45 (.p (.bin 0 .shr (.t 44) (.c (.int .u64 (.lit 20)))))), (w' 46 (.call (.f 60) [(.t 45), (.c (i6' 31)), (.c (i6' 1))])), (mv' 47 1), (w' 48 (.p (.bin 0 .shr (.t 47) (.c (.int .u64 (.lit 12)))))), (w' 49 (.call (.f 60) [(.t 48), (.c (i6' 12)), (.c (i6' 8))])), (w' 50 (.p (.bin 0 .or (.t 46) (.t 49)))), (mv' 51 1), (w' 52 (.p (.bin 0 .shr (.t 51) (.c (.int .u64 (.lit 11)))))), (w' 53 (.call (.f 60) [(.t 52), (.c (i6' 20)), (.c (i6' 1))])), (w' 54 (.p (.bin 0 .or (.t 50) (.t 53)))), (mv' 55 1), (w' 56 (.p (.bin 0 .shr (.t 55) (.c (.int .u64 (.lit 1)))))), (w' 57 (.call (.f 60) [(.t 56), (.c (i6' 21)), (.c (i6' 10))])), (w' 58 (.p (.bin 0 .or (.t 54) (.t 57)))), (mv' 6 58)])
 (.seq (.reg [(w' 4 (.p (.mv (.c (u3' 0))))), (w' 5 (.p (.mv (.c (bo' false)))))])
 .ret)))))))))))))
 (.seq (.seq (.reg [(mv' 59 0), (mv' 60 6), (w' 61 (.call (.f 61) [(.t 59), (.t 60)])), (mv' 62 1), (w' 63 (.p (.bin 0 .neq (.t 61) (.t 62))))])
 (.cond (.t 63) (.seq (.reg [(w' 4 (.p (.mv (.c (u3' 0))))), (w' 5 (.p (.mv (.c (bo' false)))))])
 .ret)
 .skip))
 (.seq (.reg [(mv' 64 6), (mv' 4 64), (w' 5 (.p (.mv (.c (bo' true)))))])
 .ret)))))⟩
/- (*corral/hart.Hart).Begin -/
def af43 : AFunc := ⟨10, [.t 2],
 (.seq (.reg [(w' 2 (.p (.mv (.c .nilPtr))))])
 (.seq (.reg [(mv' 3 0), (nc' 4 3), (fa' 5 11 4), (ld' 6 1 5), (w' 7 (.p (.build [(i6' 0), (u3' 0), (u3' 0), (u3' 0), (u3' 0), (u3' 0), .nilSlice, .nilSlice, (u3' 0), (u3' 0), (bo' false), (i6' 0), (i6' 0)] [(1, 1, (.t 6))]))), (w' 8 (.p (.build [(i6' 0), (u3' 0), (u3' 0), (u3' 0), (u3' 0), (u3' 0), .nilSlice, .nilSlice, (u3' 0), (u3' 0), (bo' false), (i6' 0), (i6' 0), (bo' false), (bo' false)] [(0, 13, (.t 7))]))), (w' 9 (.box 15 (.t 8))), (mv' 2 9)])
 .ret))⟩
/- (*corral/hart.Draft).Ask -/
def af44 : AFunc := ⟨79, [.cell 4 true 6],
 (.seq (.reg [(w' 4 (.newC [(i6' 0), (u3' 0), (u3' 0), (i6' 0), (bo' false), (i6' 0)]))])
 (.seq (.seq (.reg [(mv' 9 1), (nc' 10 9), (fa' 11 11 10), (ld' 12 1 11), (w' 13 (.p (.bin 0 .rem (.t 12) (.c (u3' 4))))), (w' 14 (.p (.bin 0 .neq (.t 13) (.c (u3' 0)))))])
 (.cond (.t 14) (.seq (.reg [(mv' 15 0), (mv' 16 1), (nc' 17 16), (fa' 18 11 17), (ld' 19 1 18), (w' 20 (.call (.f 62) [(.t 15), (.c (u3' 0)), (.t 19)])), (so' 6 4 20)])
 .ret)
 .skip))
 (.seq (.reg [(mv' 22 0), (mv' 23 1), (mv' 24 1), (nc' 25 24), (fa' 26 11 25), (ld' 27 1 26), (w' 28 (.call (.f 63) [(.t 22), (.t 23), (.t 27), (.c (i6' 1))])), (mv' 21 28), (ex' 29 0 21), (ex' 30 1 21), (ex' 31 2 21), (w' 6 (.newC [(i6' 0), (u3' 0), (u3' 0), (i6' 0), (bo' false), (i6' 0)])), (mv' 5 29), (so' 6 6 30), (mv' 7 31)])
 (.seq (.seq (.reg [(mv' 32 7), (w' 33 (.p (.un .not (.t 32))))])
 (.cond (.t 33) (.seq (.reg [(lg' 34 6 6), (so' 6 4 34)])
 .ret)
 .skip))
 (.seq (.reg [(mv' 35 0), (mv' 36 5), (nc' 37 35), (fa' 38 0 37), (fa' 39 3 38), (so' 1 39 36)])
 (.seq (.seq (.reg [(mv' 40 1), (mv' 41 5), (w' 42 (.call (.f 64) [(.t 40), (.t 41), (.c (i6' 4))])), (w' 43 (.p (.un .not (.t 42))))])
 (.cond (.t 43) (.seq (.reg [(mv' 44 0), (mv' 45 1), (nc' 46 45), (fa' 47 11 46), (ld' 48 1 47), (w' 49 (.call (.f 62) [(.t 44), (.c (u3' 1)), (.t 48)])), (so' 6 4 49)])
 .ret)
 .skip))
 (.seq (.seq (.reg [(mv' 50 0), (nc' 51 50), (fa' 52 13 51), (ld' 53 1 52), (w' 54 (.p (.un .not (.t 53))))])
 (.cond (.t 54) (.seq (.reg [(mv' 55 5), (w' 56 (.p (.build [(i6' 0), (u3' 0), (u3' 0), (i6' 0), (bo' false), (i6' 0)] [(0, 1, (.c (i6' 3))), (1, 1, (.t 55)), (3, 1, (.c (i6' 4))), (4, 1, (.c (bo' true)))]))), (so' 6 4 56)])
 .ret)
 .skip))
 (.seq (.reg [(mv' 58 0), (nc' 59 58), (fa' 60 0 59), (fa' 61 2 60), (ld' 62 1 61), (w' 63 (.call (.f 56) [(.t 62)])), (mv' 57 63), (ex' 64 0 57), (ex' 65 1 57), (w' 8 (.newC [(i6' 0), (i6' 0), (i6' 0), (i6' 0), (i6' 0), (u3' 0), (bo' false), (bo' false)])), (so' 8 8 64), (mv' 7 65)])
 (.seq (.seq (.reg [(mv' 66 7), (w' 67 (.p (.un .not (.t 66))))])
 (.cond (.t 67) (.seq (.reg [(mv' 68 0), (mv' 69 0), (nc' 70 69), (fa' 71 0 70), (fa' 72 2 71), (ld' 73 1 72), (w' 74 (.call (.f 62) [(.t 68), (.c (u3' 2)), (.t 73)])), (so' 6 4 74)])
 .ret)
 .skip))
 (.seq (.reg [(mv' 75 0), (mv' 76 1), (lg' 77 8 8), (w' 78 (.call (.f 65) [(.t 75), (.t 76), (.t 77)])), (so' 6 4 78)])
 .ret))))))))))⟩
/- (*corral/hart.Draft).Entry -/
def af45 : AFunc := ⟨19, [],
 (.seq (.reg [(w' 4 (.box 6 (.t 1))), (w' 5 (.box 5 (.t 2)))])
 (.seq (.reg [(mv' 7 0), (fa' 8 4 4), (ld' 9 1 8), (w' 10 (.call (.f 66) [(.t 7), (.t 9)])), (mv' 6 10)])
 (.draw [((mv' 11 6), []), ((mv' 12 6), []), ((nc' 13 12), []), ((ld' 14 1 13), []), ((lg' 15 5 5), []), ((w' 16 (.mkArr 5 1 [(u3' 0), (u3' 0), (u3' 0), (i6' 0), (bo' false)] [(0, 5, (.t 15))])), []), ((w' 17 (.append 5 32 (.t 14) (.t 16))), []), ((nc' 18 11), []), ((so' 1 18 17), [])])))⟩
/- (*corral/hart.Draft).Marked -/
def af46 : AFunc := ⟨38, [],
 (.seq (.reg [(w' 4 (.box 6 (.t 1)))])
 (.seq (.reg [(mv' 8 0), (fa' 9 4 4), (ld' 10 1 9), (w' 11 (.call (.f 66) [(.t 8), (.t 10)])), (nc' 12 11), (ld' 13 1 12), (mv' 6 13)])
 (.seq (.reg [(mv' 14 6), (mv' 15 6), (w' 16 (.p (.lenS (.t 15)))), (w' 17 (.p (.bin 0 .sub (.t 16) (.c (i6' 1))))), (w' 18 (.p (.idxSl 5 (.t 14) (.t 17)))), (mv' 7 18)])
 (.draw [((mv' 19 7), []), ((mv' 20 7), []), ((mv' 21 7), []), ((mv' 22 7), []), ((mv' 23 7), []), ((nc' 24 23), []), ((fa' 25 1 24), []), ((ld' 26 1 25), []), ((fa' 27 2 4), []), ((ld' 28 1 27), [13]), ((mv' 29 2), []), ((nc' 30 19), []), ((fa' 31 2 30), []), ((so' 1 31 26), []), ((nc' 32 20), []), ((fa' 33 1 32), []), ((so' 1 33 28), []), ((nc' 34 21), []), ((fa' 35 4 34), []), (⟨none, (.store 1 (.t 35) (.c (bo' true))), none⟩, []), ((nc' 36 22), []), ((fa' 37 3 36), []), ((so' 1 37 29), [])]))))⟩
/- (*corral/seq.Machine).write -/
def af47 : AFunc := ⟨69, [],
 (.seq (.seq (.reg [(mv' 15 2), (w' 16 (.call (.f 67) [(.t 15)])), (mv' 14 16), (ex' 17 0 14), (ex' 18 1 14), (mv' 10 17), (mv' 11 18)])
 (.seq (.reg [(mv' 19 11)])
 (.cond (.t 19) (.seq (.reg [(mv' 20 0), (mv' 21 10), (mv' 22 4), (w' 23 (.p (.bin 0 .neq (.t 22) (.c (u3' 0))))), (w' 24 (.call (.f 68) [(.t 20), (.t 21), (.t 23)]))])
 .ret)
 .skip)))
 (.seq (.reg [(mv' 25 0), (nc' 26 25), (fa' 27 1 26), (ld' 28 1 27), (mv' 29 2), (mv' 30 3), (mv' 31 4), (w' 32 (.call (.f 69) [(.t 28), (.t 29), (.t 30), (.t 31)]))])
 (.seq (.reg [(mv' 33 0), (nc' 34 33), (fa' 35 0 34), (ld' 36 1 35), (w' 37 (.p (.lenS (.t 36)))), (w' 38 (.p (.mv (.c (i6' 0)))))])
 (.block 0 (.loop (.seq (.reg [(w' 39 (.p (.bin 0 .lss (.t 38) (.t 37))))])
 (.seq (.cond (.t 39) .skip
 (.exit 0))
 (.seq (.block 1 (.seq (.reg [(w' 40 (.p (.idxSl 1 (.t 36) (.t 38)))), (ld' 41 1 40), (mv' 13 41)])
 (.seq (.reg [(mv' 42 13), (mv' 43 1), (w' 44 (.ptrEq true (.t 42) (.t 43))), (mv' 45 44), (gt' 46 45 (.p (.mv (.t 2)))), (gt' 47 45 (.p (.mv (.t 13)))), (gt' 48 45 (.p (.nilCheck (.t 47)))), (gt' 49 45 (.p (.fieldAddr 2 (.t 48)))), (gt' 50 45 (.load false 1 (.t 49))), (gt' 51 45 (.p (.bin 0 .add (.t 50) (.c (u3' 4))))), (gt' 52 45 (.p (.bin 0 .lss (.t 46) (.t 51)))), (w' 53 (.pick (.t 45) (.t 52) (.c (bo' false)))), (mv' 54 53), (gt' 55 54 (.p (.mv (.t 13)))), (gt' 56 54 (.p (.nilCheck (.t 55)))), (gt' 57 54 (.p (.fieldAddr 2 (.t 56)))), (gt' 58 54 (.load false 1 (.t 57))), (gt' 59 54 (.p (.mv (.t 2)))), (gt' 60 54 (.p (.mv (.t 3)))), (gt' 61 54 (.p (.conv .u32 (.t 60)))), (gt' 62 54 (.p (.bin 0 .add (.t 59) (.t 61)))), (gt' 63 54 (.p (.bin 0 .lss (.t 58) (.t 62)))), (w' 64 (.pick (.t 54) (.t 63) (.c (bo' false))))])
 (.cond (.t 64) (.reg [(mv' 65 13), (nc' 66 65), (fa' 67 1 66), ⟨none, (.store 1 (.t 67) (.c (bo' false))), none⟩])
 .skip))))
 (.reg [(w' 68 (.p (.bin 0 .add (.t 38) (.c (i6' 1))))), (mv' 38 68)])))))))))⟩
/- (*corral/hart.Draft).Word -/
def af48 : AFunc := ⟨19, [],
 (.reg [(mv' 6 0), (mv' 7 0), (mv' 8 0), (mv' 9 1), (mv' 10 2), (nc' 11 6), (fa' 12 0 11), (fa' 13 2 12), (so' 1 13 9), (nc' 14 7), (fa' 15 0 14), (fa' 16 11 15), (so' 1 16 10), (nc' 17 8), (fa' 18 13 17), ⟨none, (.store 1 (.t 18) (.c (bo' true))), none⟩])⟩
/- (*corral/hart.Draft).Got -/
def af49 : AFunc := ⟨12, [],
 (.reg [(mv' 4 0), (mv' 5 0), (mv' 6 1), (nc' 7 4), (fa' 8 0 7), (fa' 9 5 8), (so' 1 9 6), (nc' 10 5), (fa' 11 14 10), ⟨none, (.store 1 (.t 11) (.c (bo' true))), none⟩])⟩
/- (*corral/seq.Machine).read -/
def af50 : AFunc := ⟨46, [.t 6],
 (.seq (.reg [(w' 6 (.p (.mv (.c (u3' 0)))))])
 (.seq (.seq (.reg [(mv' 13 1), (w' 14 (.call (.f 67) [(.t 13)])), (mv' 12 14), (ex' 15 0 12), (ex' 16 1 12), (mv' 7 15), (mv' 8 16)])
 (.seq (.reg [(mv' 17 8)])
 (.cond (.t 17) (.seq (.seq (.reg [(mv' 18 0), (mv' 19 7), (w' 20 (.call (.f 24) [(.t 18), (.t 19)])), (mv' 9 20)])
 (.seq (.reg [(mv' 21 9), (w' 22 (.p (.nilEq 0 true (.t 21) (.c .nilPtr)))), (mv' 23 22), (gt' 24 23 (.p (.mv (.t 9)))), (gt' 25 23 (.p (.nilCheck (.t 24)))), (gt' 26 23 (.p (.fieldAddr 0 (.t 25)))), (gt' 27 23 (.load false 1 (.t 26))), (gt' 28 23 (.p (.nilCheck (.t 27)))), (gt' 29 23 (.p (.fieldAddr 0 (.t 28)))), (gt' 30 23 (.call (.f 70) [(.t 29)])), (gt' 31 23 (.p (.idxSl 1 (.t 30) (.c (i6' 8))))), (gt' 32 23 (.load false 1 (.t 31))), (gt' 33 23 (.p (.bin 0 .neq (.t 32) (.c (u3' 0))))), (w' 34 (.pick (.t 23) (.t 33) (.c (bo' false))))])
 (.cond (.t 34) (.seq (.reg [(w' 6 (.p (.mv (.c (u3' 1)))))])
 .ret)
 .skip)))
 (.seq (.reg [(w' 6 (.p (.mv (.c (u3' 0)))))])
 .ret))
 .skip)))
 (.seq (.reg [(mv' 36 0), (nc' 37 36), (fa' 38 1 37), (ld' 39 1 38), (mv' 40 1), (mv' 41 2), (w' 42 (.call (.f 11) [(.t 39), (.t 40), (.t 41)])), (mv' 35 42), (ex' 43 0 35), (ex' 44 1 35), (mv' 10 43), (mv' 11 44)])
 (.seq (.reg [(mv' 45 10), (mv' 6 45)])
 .ret))))⟩
/- (*corral/hart.Draft).Done -/
def af51 : AFunc := ⟨12, [],
 (.reg [(mv' 4 0), (mv' 5 0), (mv' 6 1), (nc' 7 4), (fa' 8 0 7), (fa' 9 10 8), (so' 1 9 6), (nc' 10 5), (fa' 11 14 10), ⟨none, (.store 1 (.t 11) (.c (bo' true))), none⟩])⟩
/- (*corral/csr.File).Get -/
def af52 : AFunc := ⟨21, [.t 4, .t 5],
 (.seq (.reg [(w' 4 (.p (.mv (.c (u3' 0))))), (w' 5 (.p (.mv (.c (bo' false)))))])
 (.seq (.reg [(mv' 7 0), (mv' 8 1), (w' 9 (.call (.f 71) [(.t 7), (.t 8)])), (mv' 6 9)])
 (.seq (.seq (.reg [(mv' 10 6), (w' 11 (.p (.nilEq 0 false (.t 10) (.c .nilPtr)))), (mv' 12 11), (gf' 13 12 (.p (.mv (.t 0)))), (gf' 14 12 (.p (.nilCheck (.t 13)))), (gf' 15 12 (.p (.fieldAddr 0 (.t 14)))), (gf' 16 12 (.load false 1 (.t 15))), (w' 17 (.pick (.t 12) (.c (bo' true)) (.t 16)))])
 (.cond (.t 17) (.seq (.reg [(w' 4 (.p (.mv (.c (u3' 0))))), (w' 5 (.p (.mv (.c (bo' false)))))])
 .ret)
 .skip))
 (.seq (.reg [(mv' 18 6), (nc' 19 18), (ld' 20 1 19), (mv' 4 20), (w' 5 (.p (.mv (.c (bo' true)))))])
 .ret))))⟩
/- (*corral/hart.Hart).follow -/
def af53 : AFunc := ⟨132, [.cell 4 true 13, .t 5],
 (.seq (.reg [(w' 3 (.box 13 (.t 1))), (w' 4 (.newC [(i6' 0), (u3' 0), (u3' 0), (u3' 0), (u3' 0), (u3' 0), .nilSlice, .nilSlice, (u3' 0), (u3' 0), (bo' false), (i6' 0), (i6' 0)])), (w' 5 (.p (.mv (.c (bo' false)))))])
 (.seq (.seq (.reg [(fa' 12 0 3), (ld' 13 1 12), (w' 14 (.p (.bin 0 .eql (.t 13) (.c (i6' 3)))))])
 (.cond (.t 14) (.seq (.reg [(mv' 15 0), (nc' 16 15), (fa' 17 0 16), (w' 18 (.call (.f 72) [(.t 17), (.c (bo' true))]))])
 (.seq (.reg [(mv' 20 0), (nc' 21 20), (fa' 22 0 21), (w' 23 (.call (.f 33) [(.t 22)])), (mv' 19 23), (ex' 24 0 19), (ex' 25 1 19), (mv' 6 24), (mv' 7 25)])
 (.seq (.reg [(mv' 26 0), (nc' 27 26), (fa' 28 11 27), (ld' 29 1 28), (mv' 30 6), (w' 31 (.p (.build [(i6' 0), (u3' 0), (u3' 0), (u3' 0), (u3' 0), (u3' 0), .nilSlice, .nilSlice, (u3' 0), (u3' 0), (bo' false), (i6' 0), (i6' 0)] [(0, 1, (.c (i6' 3))), (1, 1, (.t 29)), (8, 1, (.t 30))]))), (mv' 32 7), (so' 13 4 31), (mv' 5 32)])
 .ret)))
 .skip))
 (.seq (.reg [(mv' 33 0), (w' 34 (.call (.f 43) [(.t 33)])), (mv' 8 34)])
 (.block 0 (.loop (.block 1 (.seq (.reg [(mv' 35 8), (mv' 36 0), (w' 37 (.call (.f 44) [(.t 35), (.t 36)])), (w' 9 (.newC [(i6' 0), (u3' 0), (u3' 0), (i6' 0), (bo' false), (i6' 0)])), (so' 6 9 37)])
 (.seq (.reg [(fa' 38 0 9), (ld' 39 1 38)])
 (.block 2 (.seq (.reg [(w' 42 (.p (.bin 0 .eql (.t 39) (.c (i6' 0))))), (mv' 41 42)])
 (.cond (.t 41) (.seq (.reg [(mv' 43 8), (nc' 44 43), (fa' 45 0 44), (lg' 46 13 45), (so' 13 4 46), (w' 5 (.p (.mv (.c (bo' true)))))])
 .ret)
 (.seq (.reg [(w' 48 (.p (.bin 0 .eql (.t 39) (.c (i6' 1))))), (mv' 47 48)])
 (.cond (.t 47) (.seq (.draw [((fa' 49 7 3), []), ((ld' 50 1 49), []), ((mv' 51 8), []), ((nc' 52 51), []), ((fa' 53 0 52), []), ((fa' 54 7 53), []), ((ld' 55 1 54), []), ((w' 56 (.p (.lenS (.t 55)))), []), ((mv' 10 50), []), ((mv' 11 56), [])])
 (.seq (.seq (.reg [(fa' 57 4 9), (ld' 58 1 57)])
 (.cond (.t 58) (.draw [((fa' 59 6 3), []), ((ld' 60 1 59), []), ((mv' 61 8), []), ((nc' 62 61), []), ((fa' 63 0 62), []), ((fa' 64 6 63), []), ((ld' 65 1 64), []), ((w' 66 (.p (.lenS (.t 65)))), []), ((mv' 10 60), []), ((mv' 11 66), [])])
 .skip))
 (.seq (.seq (.draw [((mv' 67 11), []), ((mv' 68 10), []), ((w' 69 (.p (.lenS (.t 68)))), []), ((w' 70 (.p (.bin 0 .geq (.t 67) (.t 69)))), []), ((mv' 71 70), []), ((gf' 72 71 (.p (.mv (.t 10)))), []), ((gf' 73 71 (.p (.mv (.t 11)))), []), ((gf' 74 71 (.p (.idxSl 5 (.t 72) (.t 73)))), []), ((gf' 75 71 (.p (.fieldAddr 0 (.t 74)))), []), ((gf' 76 71 (.load false 1 (.t 75))), []), ((gf' 77 71 (.p (.fieldAddr 1 (.t 9)))), []), ((gf' 78 71 (.load false 1 (.t 77))), []), ((gf' 79 71 (.p (.bin 0 .neq (.t 76) (.t 78)))), []), ((w' 80 (.pick (.t 71) (.c (bo' true)) (.t 79))), [])])
 (.cond (.t 80) (.seq (.reg [(w' 81 (.p (.build [(i6' 0), (u3' 0), (u3' 0), (u3' 0), (u3' 0), (u3' 0), .nilSlice, .nilSlice, (u3' 0), (u3' 0), (bo' false), (i6' 0), (i6' 0)] []))), (so' 13 4 81), (w' 5 (.p (.mv (.c (bo' false)))))])
 .ret)
 .skip))
 (.draw [((mv' 82 8), []), ((lg' 83 6 9), []), ((mv' 84 10), []), ((mv' 85 11), []), ((w' 86 (.p (.idxSl 5 (.t 84) (.t 85)))), []), ((lg' 87 5 86), []), ((w' 88 (.call (.f 45) [(.t 82), (.t 83), (.t 87)])), [])]))))
 (.seq (.reg [(w' 90 (.p (.bin 0 .eql (.t 39) (.c (i6' 3))))), (mv' 89 90)])
 (.cond (.t 89) (.reg [(mv' 91 8), (fa' 92 2 3), (ld' 93 1 92), (w' 94 (.call (.f 48) [(.t 91), (.t 93), (.c (i6' 0))]))])
 (.seq (.reg [(w' 96 (.p (.bin 0 .eql (.t 39) (.c (i6' 4))))), (mv' 95 96)])
 (.cond (.t 95) (.seq (.seq (.draw [((fa' 97 5 3), []), ((ld' 98 1 97), []), ((fa' 99 3 9), []), ((ld' 100 1 99), []), ((w' 101 (.p (.bin 0 .mul (.c (i6' 8)) (.t 100)))), []), ((w' 102 (.call (.f 73) [(.t 98), (.c (i6' 0)), (.t 101)])), []), ((fa' 103 5 3), []), ((ld' 104 1 103), [5]), ((w' 105 (.p (.bin 0 .neq (.t 102) (.t 104)))), [])])
 (.cond (.t 105) (.seq (.reg [(w' 106 (.p (.build [(i6' 0), (u3' 0), (u3' 0), (u3' 0), (u3' 0), (u3' 0), .nilSlice, .nilSlice, (u3' 0), (u3' 0), (bo' false), (i6' 0), (i6' 0)] []))), (so' 13 4 106), (w' 5 (.p (.mv (.c (bo' false)))))])
 .ret)
 .skip))
 (.reg [(mv' 107 8), (fa' 108 5 3), (ld' 109 1 108), (w' 110 (.call (.f 49) [(.t 107), (.t 109)]))]))
 (.seq (.reg [(w' 112 (.p (.bin 0 .eql (.t 39) (.c (i6' 5))))), (mv' 111 112)])
 (.cond (.t 111) (.reg [(mv' 113 8), (fa' 114 10 3), (ld' 115 1 114), (w' 116 (.call (.f 51) [(.t 113), (.t 115)]))])
 (.seq (.reg [(w' 118 (.p (.bin 0 .eql (.t 39) (.c (i6' 6))))), (mv' 117 118)])
 (.cond (.t 117) (.seq (.seq (.reg [(fa' 119 5 3), (ld' 120 1 119), (w' 121 (.p (.bin 0 .neq (.t 120) (.c (u3' 0))))), (mv' 122 121), (gt' 123 122 (.p (.fieldAddr 5 (.t 3)))), (gt' 124 122 (.load false 1 (.t 123))), (gt' 125 122 (.p (.bin 0 .neq (.t 124) (.c (u3' 8))))), (w' 126 (.pick (.t 122) (.t 125) (.c (bo' false))))])
 (.cond (.t 126) (.seq (.reg [(w' 127 (.p (.build [(i6' 0), (u3' 0), (u3' 0), (u3' 0), (u3' 0), (u3' 0), .nilSlice, .nilSlice, (u3' 0), (u3' 0), (bo' false), (i6' 0), (i6' 0)] []))), (so' 13 4 127), (w' 5 (.p (.mv (.c (bo' false)))))])
 .ret)
 .skip))
 (.reg [(mv' 128 8), (fa' 129 5 3), (ld' 130 1 129), (w' 131 (.call (.f 49) [(.t 128), (.t 130)]))]))
 (.seq (.reg [(w' 40 (.p (.build [(i6' 0), (u3' 0), (u3' 0), (u3' 0), (u3' 0), (u3' 0), .nilSlice, .nilSlice, (u3' 0), (u3' 0), (bo' false), (i6' 0), (i6' 0)] []))), (so' 13 4 40), (w' 5 (.p (.mv (.c (bo' false)))))])
 .ret))))))))))))))))))))))⟩
/- corral/hart.same -/
def af54 : AFunc := ⟨86, [.t 4],
 (.seq (.reg [(w' 2 (.box 13 (.t 0))), (w' 3 (.box 13 (.t 1))), (w' 4 (.p (.mv (.c (bo' false)))))])
 (.seq (.reg [(fa' 6 0 2), (ld' 7 1 6), (fa' 8 0 3), (ld' 9 1 8), (w' 10 (.p (.bin 0 .eql (.t 7) (.t 9)))), (mv' 11 10), (gt' 12 11 (.p (.fieldAddr 1 (.t 2)))), (gt' 13 11 (.load false 1 (.t 12))), (gt' 14 11 (.p (.fieldAddr 1 (.t 3)))), (gt' 15 11 (.load false 1 (.t 14))), (gt' 16 11 (.p (.bin 0 .eql (.t 13) (.t 15)))), (w' 17 (.pick (.t 11) (.t 16) (.c (bo' false)))), (mv' 18 17), (gt' 19 18 (.p (.fieldAddr 2 (.t 2)))), (gt' 20 18 (.load false 1 (.t 19))), (gt' 21 18 (.p (.fieldAddr 2 (.t 3)))), (gt' 22 18 (.load false 1 (.t 21))), (gt' 23 18 (.p (.bin 0 .eql (.t 20) (.t 22)))), (w' 24 (.pick (.t 18) (.t 23) (.c (bo' false)))), (mv' 25 24), (gt' 26 25 (.p (.fieldAddr 3 (.t 2)))), (gt' 27 25 (.load false 1 (.t 26))), (gt' 28 25 (.p (.fieldAddr 3 (.t 3)))), (gt' 29 25 (.load false 1 (.t 28))), (gt' 30 25 (.p (.bin 0 .eql (.t 27) (.t 29)))), (w' 31 (.pick (.t 25) (.t 30) (.c (bo' false)))), (mv' 32 31), (gt' 33 32 (.p (.fieldAddr 4 (.t 2)))), (gt' 34 32 (.load false 1 (.t 33))), (gt' 35 32 (.p (.fieldAddr 4 (.t 3)))), (gt' 36 32 (.load false 1 (.t 35))), (gt' 37 32 (.p (.bin 0 .eql (.t 34) (.t 36)))), (w' 38 (.pick (.t 32) (.t 37) (.c (bo' false)))), (mv' 39 38), (gt' 40 39 (.p (.fieldAddr 5 (.t 2)))), (gt' 41 39 (.load false 1 (.t 40))), (gt' 42 39 (.p (.fieldAddr 5 (.t 3)))), (gt' 43 39 (.load false 1 (.t 42))), (gt' 44 39 (.p (.bin 0 .eql (.t 41) (.t 43)))), (w' 45 (.pick (.t 39) (.t 44) (.c (bo' false)))), (mv' 5 45)])
 (.seq (.reg [(mv' 46 5), (mv' 47 46), (gt' 48 47 (.p (.fieldAddr 6 (.t 2)))), (gt' 49 47 (.load false 1 (.t 48))), (gt' 50 47 (.p (.lenS (.t 49)))), (gt' 51 47 (.p (.fieldAddr 6 (.t 3)))), (gt' 52 47 (.load false 1 (.t 51))), (gt' 53 47 (.p (.lenS (.t 52)))), (gt' 54 47 (.p (.bin 0 .eql (.t 50) (.t 53)))), (w' 55 (.pick (.t 47) (.t 54) (.c (bo' false)))), (mv' 56 55), (gt' 57 56 (.p (.fieldAddr 7 (.t 2)))), (gt' 58 56 (.load false 1 (.t 57))), (gt' 59 56 (.p (.lenS (.t 58)))), (gt' 60 56 (.p (.fieldAddr 7 (.t 3)))), (gt' 61 56 (.load false 1 (.t 60))), (gt' 62 56 (.p (.lenS (.t 61)))), (gt' 63 56 (.p (.bin 0 .eql (.t 59) (.t 62)))), (w' 64 (.pick (.t 56) (.t 63) (.c (bo' false)))), (mv' 65 64), (gt' 66 65 (.p (.fieldAddr 8 (.t 2)))), (gt' 67 65 (.load false 1 (.t 66))), (gt' 68 65 (.p (.fieldAddr 8 (.t 3)))), (gt' 69 65 (.load false 1 (.t 68))), (gt' 70 65 (.p (.bin 0 .eql (.t 67) (.t 69)))), (w' 71 (.pick (.t 65) (.t 70) (.c (bo' false)))), (mv' 72 71), (gt' 73 72 (.p (.fieldAddr 9 (.t 2)))), (gt' 74 72 (.load false 1 (.t 73))), (gt' 75 72 (.p (.fieldAddr 9 (.t 3)))), (gt' 76 72 (.load false 1 (.t 75))), (gt' 77 72 (.p (.bin 0 .eql (.t 74) (.t 76)))), (w' 78 (.pick (.t 72) (.t 77) (.c (bo' false)))), (mv' 79 78), (gt' 80 79 (.p (.fieldAddr 10 (.t 2)))), (gt' 81 79 (.load false 1 (.t 80))), (gt' 82 79 (.p (.fieldAddr 10 (.t 3)))), (gt' 83 79 (.load false 1 (.t 82))), (gt' 84 79 (.p (.bin 1 .eql (.t 81) (.t 83)))), (w' 85 (.pick (.t 79) (.t 84) (.c (bo' false)))), (mv' 4 85)])
 .ret)))⟩
/- (*corral/hart.Hart).do -/
def af55 : AFunc := ⟨106, [.cell 4 true 7],
 (.seq (.reg [(w' 3 (.box 13 (.t 1))), (w' 4 (.newC [(i6' 0), (u3' 0), (i6' 0), (u3' 0), (bo' false), (bo' false), (bo' false)]))])
 (.seq (.seq (.reg [(fa' 13 0 3), (ld' 14 1 13), (w' 15 (.p (.bin 0 .neq (.t 14) (.c (i6' 1)))))])
 (.cond (.t 15) (.seq (.draw [((mv' 16 0), []), ((mv' 17 0), []), ((nc' 18 17), []), ((fa' 19 0 18), []), ((fa' 20 8 3), []), ((ld' 21 1 20), []), ((fa' 22 9 3), []), ((ld' 23 1 22), []), ((mv' 24 0), []), ((nc' 25 24), []), ((fa' 26 11 25), []), ((ld' 27 1 26), []), ((w' 28 (.call (.f 74) [(.t 19), (.t 21), (.t 23), (.t 27)])), []), ((nc' 29 16), []), ((fa' 30 11 29), []), ((so' 1 30 28), [])])
 (.seq (.reg [(w' 31 (.p (.build [(i6' 0), (u3' 0), (i6' 0), (u3' 0), (bo' false), (bo' false), (bo' false)] []))), (so' 7 4 31)])
 .ret))
 .skip))
 (.seq (.reg [(fa' 33 2 3), (ld' 34 1 33), (w' 35 (.call (.f 56) [(.t 34)])), (mv' 32 35), (ex' 36 0 32), (ex' 37 1 32), (w' 5 (.newC [(i6' 0), (i6' 0), (i6' 0), (i6' 0), (i6' 0), (u3' 0), (bo' false), (bo' false)])), (so' 8 5 36), (mv' 6 37)])
 (.seq (.draw [((mv' 38 0), []), ((fa' 39 2 5), []), ((ld' 40 1 39), []), ((nc' 41 38), []), ((fa' 42 12 41), []), ((w' 43 (.p (.idxArr 32 1 (.t 42) (.t 40)))), []), ((ld' 44 1 43), []), ((mv' 45 0), []), ((fa' 46 3 5), []), ((ld' 47 1 46), []), ((nc' 48 45), []), ((fa' 49 12 48), []), ((w' 50 (.p (.idxArr 32 1 (.t 49) (.t 47)))), []), ((ld' 51 1 50), []), ((mv' 7 44), []), ((mv' 8 51), [])])
 (.seq (.draw [((lg' 52 8 5), []), ((mv' 53 0), []), ((nc' 54 53), []), ((fa' 55 11 54), []), ((ld' 56 1 55), []), ((mv' 57 7), []), ((mv' 58 8), []), ((w' 59 (.call (.f 75) [(.t 52), (.t 56), (.t 57), (.t 58)])), []), ((mv' 9 59), [])])
 (.seq (.seq (.draw [((lg' 61 8 5), []), ((mv' 62 0), []), ((nc' 63 62), []), ((fa' 64 11 63), []), ((ld' 65 1 64), []), ((mv' 66 7), []), ((mv' 67 8), []), ((w' 68 (.call (.f 76) [(.t 61), (.t 65), (.t 66), (.t 67)])), []), ((mv' 60 68), []), ((ex' 69 0 60), []), ((ex' 70 1 60), []), ((mv' 10 69), []), ((mv' 11 70), [])])
 (.seq (.reg [(mv' 71 11)])
 (.cond (.t 71) (.reg [(mv' 72 0), (fa' 73 1 5), (ld' 74 1 73), (mv' 75 10), (w' 76 (.call (.f 77) [(.t 72), (.t 74), (.t 75)]))])
 .skip)))
 (.seq (.reg [(w' 77 (.p (.build [(i6' 0), (u3' 0), (i6' 0), (u3' 0), (bo' false), (bo' false), (bo' false)] []))), (w' 12 (.newC [(i6' 0), (u3' 0), (i6' 0), (u3' 0), (bo' false), (bo' false), (bo' false)])), (so' 7 12 77)])
 (.seq (.seq (.reg [(fa' 78 0 5), (ld' 79 1 78), (w' 80 (.call (.f 78) [(.t 79)]))])
 (.block 0 (.seq (.seq (.reg [(w' 82 (.p (.bin 0 .eql (.t 80) (.c (i6' 4))))), (mv' 81 82)])
 (.cond (.t 81) .skip
 (.seq (.reg [(w' 83 (.p (.bin 0 .eql (.t 80) (.c (i6' 5))))), (mv' 81 83)])
 (.cond (.t 81) .skip
 (.reg [(w' 84 (.p (.bin 0 .eql (.t 80) (.c (i6' 6))))), (mv' 81 84)])))))
 (.cond (.t 81) (.reg [(mv' 85 0), (lg' 86 8 5), (lg' 87 13 3), (mv' 88 8), (w' 89 (.call (.f 79) [(.t 85), (.t 86), (.t 87), (.t 88)])), (so' 7 12 89)])
 (.seq (.reg [(w' 91 (.p (.bin 0 .eql (.t 80) (.c (i6' 7))))), (mv' 90 91)])
 (.cond (.t 90) (.reg [(mv' 93 0), (lg' 94 8 5), (lg' 95 13 3), (mv' 96 7), (mv' 97 9), (w' 98 (.call (.f 80) [(.t 93), (.t 94), (.t 95), (.t 96), (.t 97)])), (mv' 92 98), (ex' 99 0 92), (ex' 100 1 92), (so' 7 12 99), (mv' 9 100)])
 .skip))))))
 (.seq (.reg [(mv' 101 0), (mv' 102 9), (nc' 103 101), (fa' 104 11 103), (so' 1 104 102)])
 (.seq (.reg [(lg' 105 7 12), (so' 7 4 105)])
 .ret))))))))))⟩
/- corral/isa.Decode -/
def af56 : AFunc := ⟨20, [.cell 2 true 8, .t 3],
 (.seq (.reg [(w' 2 (.newC [(i6' 0), (i6' 0), (i6' 0), (i6' 0), (i6' 0), (u3' 0), (bo' false), (bo' false)])), (w' 3 (.p (.mv (.c (bo' false)))))])
 (.seq (.seq (.reg [(w' 6 (.call (.f 81) [])), (w' 7 (.p (.lenS (.t 6)))), (w' 8 (.p (.mv (.c (i6' 0)))))])
 (.block 0 (.loop (.seq (.reg [(w' 9 (.p (.bin 0 .lss (.t 8) (.t 7))))])
 (.seq (.cond (.t 9) .skip
 (.exit 0))
 (.seq (.block 1 (.seq (.reg [(w' 10 (.p (.idxSl 7 (.t 6) (.t 8)))), (lg' 11 7 10), ⟨(some 5), (.newC [(i6' 0), (.str ⟨#[]⟩), (i6' 0), (u3' 0), (u3' 0), (u3' 0), (i6' 0)]), none⟩, (so' 7 5 11)])
 (.seq (.reg [(lg' 12 7 5), (mv' 13 0), (w' 14 (.call (.f 82) [(.t 12), (.t 13)]))])
 (.cond (.t 14) (.seq (.reg [(lg' 15 7 5), (mv' 16 0), (w' 17 (.call (.f 83) [(.t 15), (.t 16)])), (so' 8 2 17), (w' 3 (.p (.mv (.c (bo' true)))))])
 .ret)
 .skip))))
 (.reg [(w' 18 (.p (.bin 0 .add (.t 8) (.c (i6' 1))))), (mv' 8 18)])))))))
 (.seq (.reg [(w' 19 (.p (.build [(i6' 0), (i6' 0), (i6' 0), (i6' 0), (i6' 0), (u3' 0), (bo' false), (bo' false)] []))), (so' 8 2 19), (w' 3 (.p (.mv (.c (bo' false)))))])
 .ret)))⟩
/- (*corral/seq.one).wakes -/
def af57 : AFunc := ⟨20, [.t 2],
 (.seq (.reg [(w' 2 (.p (.mv (.c (bo' false)))))])
 (.seq (.reg [(mv' 4 0), (nc' 5 4), (fa' 6 0 5), (ld' 7 1 6), (nc' 8 7), (fa' 9 0 8), (w' 10 (.call (.f 70) [(.t 9)])), (mv' 3 10)])
 (.seq (.draw [((mv' 11 3), []), ((w' 12 (.p (.idxSl 1 (.t 11) (.c (i6' 2))))), []), ((ld' 13 1 12), []), ((mv' 14 3), []), ((w' 15 (.p (.idxSl 1 (.t 14) (.c (i6' 8))))), []), ((ld' 16 1 15), []), ((w' 17 (.p (.bin 0 .and (.t 13) (.t 16)))), []), ((w' 18 (.p (.bin 0 .and (.t 17) (.c (u3' 8))))), []), ((w' 19 (.p (.bin 0 .neq (.t 18) (.c (u3' 0))))), []), ((mv' 2 19), [])])
 .ret)))⟩
/- corral/corralref1.row -/
def af58 : AFunc := ⟨60, [.cell 14 true 14],
 (.seq (.reg [⟨(some 14), (.newC [(i6' 0), (.str ⟨#[]⟩), (u3' 0), (u3' 0), (u3' 0), (bo' false), (bo' false), (.int .u8 (.lit 0)), (bo' false), (bo' false), (bo' false), (bo' false), (u3' 0), (bo' false)]), none⟩])
 (.seq (.reg [(mv' 17 0), (mv' 18 1), (mv' 19 2), (w' 20 (.p (.conv .u32 (.t 19)))), (mv' 21 5), ⟨(some 22), (.p (.build [(i6' 0), (.str ⟨#[]⟩), (u3' 0), (u3' 0), (u3' 0), (bo' false), (bo' false), (.int .u8 (.lit 0)), (bo' false), (bo' false), (bo' false), (bo' false), (u3' 0), (bo' false)] [(0, 1, (.t 17)), (1, 1, (.t 18)), (2, 1, (.t 20)), (7, 1, (.t 21))])), none⟩, ⟨(some 15), (.newC [(i6' 0), (.str ⟨#[]⟩), (u3' 0), (u3' 0), (u3' 0), (bo' false), (bo' false), (.int .u8 (.lit 0)), (bo' false), (bo' false), (bo' false), (bo' false), (u3' 0), (bo' false)]), none⟩, (so' 14 15 22)])
 (.seq (.seq (.reg [(mv' 23 3), (w' 24 (.p (.bin 0 .geq (.t 23) (.c (i6' 0)))))])
 (.cond (.t 24) (.seq (.reg [(mv' 25 3), (w' 26 (.p (.conv .u32 (.t 25)))), (fa' 27 3 15), (so' 1 27 26)])
 (.reg [(fa' 28 5 15), ⟨none, (.store 1 (.t 28) (.c (bo' true))), none⟩]))
 .skip))
 (.seq (.seq (.reg [(mv' 29 4), (w' 30 (.p (.bin 0 .geq (.t 29) (.c (i6' 0)))))])
 (.cond (.t 30) (.seq (.reg [(mv' 31 4), (w' 32 (.p (.conv .u32 (.t 31)))), (fa' 33 4 15), (so' 1 33 32)])
 (.reg [(fa' 34 6 15), ⟨none, (.store 1 (.t 34) (.c (bo' true))), none⟩]))
 .skip))
 (.seq (.seq (.reg [(w' 16 (.p (.mv (.c (i6' 0)))))])
 (.block 0 (.loop (.seq (.seq (.reg [(mv' 35 16), (mv' 36 6), (w' 37 (.p (.lenStr (.t 36)))), (w' 38 (.p (.bin 0 .lss (.t 35) (.t 37))))])
 (.cond (.t 38) .skip
 (.exit 0)))
 (.seq (.block 1 (.seq (.reg [(mv' 41 6), (mv' 42 16), (w' 43 (.p (.idxStr (.t 41) (.t 42))))])
 (.block 2 (.seq (.reg [(w' 45 (.p (.bin 0 .eql (.t 43) (.c (.int .u8 (.lit 100)))))), (mv' 44 45)])
 (.cond (.t 44) (.reg [(fa' 46 8 15), ⟨none, (.store 1 (.t 46) (.c (bo' true))), none⟩])
 (.seq (.reg [(w' 48 (.p (.bin 0 .eql (.t 43) (.c (.int .u8 (.lit 97)))))), (mv' 47 48)])
 (.cond (.t 47) (.reg [(fa' 49 9 15), ⟨none, (.store 1 (.t 49) (.c (bo' true))), none⟩])
 (.seq (.reg [(w' 51 (.p (.bin 0 .eql (.t 43) (.c (.int .u8 (.lit 98)))))), (mv' 50 51)])
 (.cond (.t 50) (.reg [(fa' 52 10 15), ⟨none, (.store 1 (.t 52) (.c (bo' true))), none⟩])
 (.seq (.reg [(w' 54 (.p (.bin 0 .eql (.t 43) (.c (.int .u8 (.lit 99)))))), (mv' 53 54)])
 (.cond (.t 53) (.reg [(fa' 55 11 15), ⟨none, (.store 1 (.t 55) (.c (bo' true))), none⟩])
 (.seq (.reg [(w' 57 (.p (.bin 0 .eql (.t 43) (.c (.int .u8 (.lit 112)))))), (mv' 56 57)])
 (.cond (.t 56) (.reg [(fa' 58 13 15), ⟨none, (.store 1 (.t 58) (.c (bo' true))), none⟩])
 .skip)))))))))))))
 (.reg [(mv' 39 16), (w' 40 (.p (.bin 0 .add (.t 39) (.c (i6' 1))))), (mv' 16 40)]))))))
 (.seq (.reg [(lg' 59 14 15), (so' 14 14 59)])
 .ret))))))⟩
/- corral/corralref1.whole -/
def af59 : AFunc := ⟨11, [.cell 6 true 14],
 (.seq (.reg [⟨(some 6), (.newC [(i6' 0), (.str ⟨#[]⟩), (u3' 0), (u3' 0), (u3' 0), (bo' false), (bo' false), (.int .u8 (.lit 0)), (bo' false), (bo' false), (bo' false), (bo' false), (u3' 0), (bo' false)]), none⟩])
 (.seq (.reg [(mv' 7 0), (mv' 8 1), (mv' 9 2), ⟨(some 10), (.p (.build [(i6' 0), (.str ⟨#[]⟩), (u3' 0), (u3' 0), (u3' 0), (bo' false), (bo' false), (.int .u8 (.lit 0)), (bo' false), (bo' false), (bo' false), (bo' false), (u3' 0), (bo' false)] [(0, 1, (.t 7)), (1, 1, (.t 8)), (12, 1, (.t 9))])), none⟩, (so' 14 6 10)])
 .ret))⟩
/- corral/corralref1.Place -/
def af60 : AFunc := ⟨23, [.t 6],
 (.seq (.reg [(w' 6 (.p (.mv (.c (u3' 0)))))])
 (.seq (.seq (.reg [(mv' 7 1), (w' 8 (.p (.bin 0 .lss (.t 7) (.c (i6' 0))))), (mv' 9 8), (gf' 10 9 (.p (.mv (.t 1)))), (gf' 11 9 (.p (.bin 0 .gtr (.t 10) (.c (i6' 31))))), (w' 12 (.pick (.t 9) (.c (bo' true)) (.t 11))), (mv' 13 12), (gf' 14 13 (.p (.mv (.t 2)))), (gf' 15 13 (.p (.bin 0 .lss (.t 14) (.c (i6' 1))))), (w' 16 (.pick (.t 13) (.c (bo' true)) (.t 15)))])
 (.cond (.t 16) (.seq (.reg [(w' 6 (.p (.mv (.c (u3' 0)))))])
 .ret)
 .skip))
 (.seq (.reg [(mv' 17 0), (mv' 18 2), (w' 19 (.call (.f 84) [(.t 17), (.c (i6' 0)), (.t 18)])), (mv' 20 1), (w' 21 (.p (.conv .u64 (.t 20)))), (w' 22 (.p (.bin 0 .shl (.t 19) (.t 21)))), (mv' 6 22)])
 .ret)))⟩
/- corral/corralref1.Imm -/
def af61 : AFunc := ⟨61, [.t 4],
 (.seq (.reg [(w' 4 (.p (.mv (.c (u3' 0)))))])
 (.seq (.seq (.reg [(mv' 5 0)])
 (.block 0 (.seq (.reg [(w' 7 (.p (.bin 0 .eql (.t 5) (.c (.int .u8 (.lit 73)))))), (mv' 6 7)])
 (.cond (.t 6) (.seq (.reg [(mv' 8 1), (w' 9 (.call (.f 84) [(.t 8), (.c (i6' 20)), (.c (i6' 12))])), (w' 10 (.call (.f 85) [(.t 9), (.c (i6' 12))])), (mv' 4 10)])
 .ret)
 (.seq (.reg [(w' 12 (.p (.bin 0 .eql (.t 5) (.c (.int .u8 (.lit 83)))))), (mv' 11 12)])
 (.cond (.t 11) (.seq (.reg [(mv' 13 1), (w' 14 (.call (.f 84) [(.t 13), (.c (i6' 25)), (.c (i6' 7))])), (w' 15 (.p (.bin 0 .shl (.t 14) (.c (.int .u64 (.lit 5)))))), (mv' 16 1), (w' 17 (.call (.f 84) [(.t 16), (.c (i6' 7)), (.c (i6' 5))])), (w' 18 (.p (.bin 0 .or (.t 15) (.t 17)))), (w' 19 (.call (.f 85) [(.t 18), (.c (i6' 12))])), (mv' 4 19)])
 .ret)
 (.seq (.reg [(w' 21 (.p (.bin 0 .eql (.t 5) (.c (.int .u8 (.lit 66)))))), (mv' 20 21)])
 (.cond (.t 20) (.seq (.reg [(mv' 22 1), (w' 23 (.call (.f 84) [(.t 22), (.c (i6' 31)), (.c (i6' 1))])), (w' 24 (.p (.bin 0 .shl (.t 23) (.c (.int .u64 (.lit 12)))))), (mv' 25 1), (w' 26 (.call (.f 84) [(.t 25), (.c (i6' 7)), (.c (i6' 1))])), (w' 27 (.p (.bin 0 .shl (.t 26) (.c (.int .u64 (.lit 11)))))), (w' 28 (.p (.bin 0 .or (.t 24) (.t 27)))), (mv' 29 1), (w' 30 (.call (.f 84) [(.t 29), (.c (i6' 25)), (.c (i6' 6))])), (w' 31 (.p (.bin 0 .shl (.t 30) (.c (.int .u64 (.lit 5)))))), (w' 32 (.p (.bin 0 .or (.t 28) (.t 31)))), (mv' 33 1), (w' 34 (.call (.f 84) [(.t 33), (.c (i6' 8)), (.c (i6' 4))])), (w' 35 (.p (.bin 0 .shl (.t 34) (.c (.int .u64 (.lit 1)))))), (w' 36 (.p (.bin 0 .or (.t 32) (.t 35)))), (w' 37 (.call (.f 85) [(.t 36), (.c (i6' 13))])), (mv' 4 37)])
 .ret)
 (.seq (.reg [(w' 39 (.p (.bin 0 .eql (.t 5) (.c (.int .u8 (.lit 85)))))), (mv' 38 39)])
 (.cond (.t 38) (.seq (.reg [(mv' 40 1), (w' 41 (.call (.f 84) [(.t 40), (.c (i6' 12)), (.c (i6' 20))])), (w' 42 (.p (.bin 0 .shl (.t 41) (.c (.int .u64 (.lit 12)))))), (mv' 4 42)])
 .ret)
 (.seq (.reg [(w' 44 (.p (.bin 0 .eql (.t 5) (.c (.int .u8 (.lit 74)))))), (mv' 43 44)])
 (.cond (.t 43) (.seq (.reg [(mv' 45 1), (w' 46 (.call (.f 84) [(.t 45), (.c (i6' 31)), (.c (i6' 1))])), (w' 47 (.p (.bin 0 .shl (.t 46) (.c (.int .u64 (.lit 20)))))), (mv' 48 1), (w' 49 (.call (.f 84) [(.t 48), (.c (i6' 12)), (.c (i6' 8))])), (w' 50 (.p (.bin 0 .shl (.t 49) (.c (.int .u64 (.lit 12)))))), (w' 51 (.p (.bin 0 .or (.t 47) (.t 50)))), (mv' 52 1), (w' 53 (.call (.f 84) [(.t 52), (.c (i6' 20)), (.c (i6' 1))])), (w' 54 (.p (.bin 0 .shl (.t 53) (.c (.int .u64 (.lit 11)))))), (w' 55 (.p (.bin 0 .or (.t 51) (.t 54)))), (mv' 56 1), (w' 57 (.call (.f 84) [(.t 56), (.c (i6' 21)), (.c (i6' 10))])), (w' 58 (.p (.bin 0 .shl (.t 57) (.c (.int .u64 (.lit 1)))))), (w' 59 (.p (.bin 0 .or (.t 55) (.t 58)))), (w' 60 (.call (.f 85) [(.t 59), (.c (i6' 21))])), (mv' 4 60)])
 .ret)
 .skip))))))))))))
 (.seq (.reg [(w' 4 (.p (.mv (.c (u3' 0)))))])
 .ret)))⟩
/- (*corral/hart.Draft).trap -/
def af62 : AFunc := ⟨22, [.cell 6 true 6],
 (.seq (.reg [(w' 6 (.newC [(i6' 0), (u3' 0), (u3' 0), (i6' 0), (bo' false), (i6' 0)]))])
 (.seq (.reg [(mv' 7 0), (mv' 8 0), (mv' 9 0), (mv' 10 1), (mv' 11 2), (nc' 12 7), (fa' 13 0 12), (fa' 14 0 13), ⟨none, (.store 1 (.t 14) (.c (i6' 2))), none⟩, (nc' 15 8), (fa' 16 0 15), (fa' 17 8 16), (so' 1 17 10), (nc' 18 9), (fa' 19 0 18), (fa' 20 9 19), (so' 1 20 11)])
 (.seq (.reg [(w' 21 (.p (.build [(i6' 0), (u3' 0), (u3' 0), (i6' 0), (bo' false), (i6' 0)] []))), (so' 6 6 21)])
 .ret)))⟩
/- (*corral/hart.Draft).place -/
def af63 : AFunc := ⟨61, [.t 8, .cell 9 true 6, .t 10],
 (.seq (.reg [(w' 8 (.p (.mv (.c (u3' 0))))), (w' 9 (.newC [(i6' 0), (u3' 0), (u3' 0), (i6' 0), (bo' false), (i6' 0)])), (w' 10 (.p (.mv (.c (bo' false)))))])
 (.seq (.reg [(mv' 13 3), (w' 14 (.p (.bin 0 .eql (.t 13) (.c (i6' 1))))), (mv' 11 14)])
 (.seq (.draw [((mv' 15 1), []), ((nc' 16 15), []), ((fa' 17 0 16), []), ((w' 18 (.call (.f 87) [(.t 17)])), []), ((mv' 19 1), []), ((nc' 20 19), []), ((fa' 21 0 20), []), ((w' 22 (.call (.f 88) [(.t 21)])), []), ((mv' 23 2), []), ((mv' 24 3), []), ((mv' 25 1), []), ((nc' 26 25), []), ((fa' 27 44 26), []), ((ld' 28 1 27), [3, 7, 16]), ((mv' 29 0), []), ((mv' 30 11), []), ((w' 31 (.call (.f 66) [(.t 29), (.t 30)])), []), ((nc' 32 31), []), ((ld' 33 1 32), []), ((w' 34 (.call (.f 86) [(.t 18), (.t 22), (.t 23), (.t 24), (.t 28), (.t 33)])), []), ((w' 12 (.newC [(i6' 0), (u3' 0), (u3' 0), (u3' 0), (u3' 0)])), []), ((so' 5 12 34), [])])
 (.seq (.seq (.reg [(fa' 35 0 12), (ld' 36 1 35)])
 (.block 0 (.seq (.reg [(w' 38 (.p (.bin 0 .eql (.t 36) (.c (i6' 3))))), (mv' 37 38)])
 (.cond (.t 37) (.seq (.draw [((fa' 39 2 12), []), ((ld' 40 1 39), []), ((mv' 41 11), []), ((w' 42 (.p (.build [(i6' 0), (u3' 0), (u3' 0), (i6' 0), (bo' false), (i6' 0)] [(0, 1, (.c (i6' 1))), (1, 1, (.t 40)), (3, 1, (.c (i6' 4))), (4, 1, (.t 41))]))), []), ((w' 8 (.p (.mv (.c (u3' 0))))), []), ((so' 6 9 42), []), ((w' 10 (.p (.mv (.c (bo' false))))), [])])
 .ret)
 (.seq (.reg [(w' 44 (.p (.bin 0 .eql (.t 36) (.c (i6' 4))))), (mv' 43 44)])
 (.cond (.t 43) (.seq (.draw [((fa' 45 2 12), []), ((ld' 46 1 45), []), ((fa' 47 3 12), []), ((ld' 48 1 47), []), ((mv' 49 11), []), ((w' 50 (.p (.build [(i6' 0), (u3' 0), (u3' 0), (i6' 0), (bo' false), (i6' 0)] [(0, 1, (.c (i6' 2))), (1, 1, (.t 46)), (2, 1, (.t 48)), (3, 1, (.c (i6' 4))), (4, 1, (.t 49))]))), []), ((w' 8 (.p (.mv (.c (u3' 0))))), []), ((so' 6 9 50), []), ((w' 10 (.p (.mv (.c (bo' false))))), [])])
 .ret)
 (.seq (.reg [(w' 52 (.p (.bin 0 .eql (.t 36) (.c (i6' 2))))), (mv' 51 52)])
 (.cond (.t 51) (.seq (.reg [(mv' 53 0), (fa' 54 4 12), (ld' 55 1 54), (mv' 56 2), (w' 57 (.call (.f 62) [(.t 53), (.t 55), (.t 56)])), (w' 8 (.p (.mv (.c (u3' 0))))), (so' 6 9 57), (w' 10 (.p (.mv (.c (bo' false)))))])
 .ret)
 .skip))))))))
 (.seq (.reg [(fa' 58 1 12), (ld' 59 1 58), (w' 60 (.p (.build [(i6' 0), (u3' 0), (u3' 0), (i6' 0), (bo' false), (i6' 0)] []))), (mv' 8 59), (so' 6 9 60), (w' 10 (.p (.mv (.c (bo' true)))))])
 .ret)))))⟩
/- (*corral/hart.Hart).has -/
def af64 : AFunc := ⟨19, [.t 6],
 (.seq (.reg [(w' 6 (.p (.mv (.c (bo' false)))))])
 (.seq (.reg [(mv' 7 1), (w' 8 (.p (.conv .u64 (.t 7)))), (mv' 9 2), (w' 10 (.p (.conv .u64 (.t 9)))), (w' 11 (.p (.bin 0 .add (.t 8) (.t 10)))), (mv' 12 0), (nc' 13 12), (fa' 14 44 13), (ld' 15 1 14), (w' 16 (.p (.mx (.t 15) (.c (i6' 0))))), (w' 17 (.p (.conv .u64 (.t 16)))), (w' 18 (.p (.bin 0 .leq (.t 11) (.t 17)))), (mv' 6 18)])
 .ret))⟩
/- (*corral/hart.Draft).inst -/
def af65 : AFunc := ⟨78, [.cell 6 true 6],
 (.seq (.reg [(w' 5 (.box 8 (.t 2))), (w' 6 (.newC [(i6' 0), (u3' 0), (u3' 0), (i6' 0), (bo' false), (i6' 0)]))])
 (.seq (.draw [((mv' 12 1), []), ((fa' 13 2 5), []), ((ld' 14 1 13), []), ((nc' 15 12), []), ((fa' 16 12 15), []), ((w' 17 (.p (.idxArr 32 1 (.t 16) (.t 14)))), []), ((ld' 18 1 17), []), ((mv' 19 1), []), ((fa' 20 3 5), []), ((ld' 21 1 20), []), ((nc' 22 19), []), ((fa' 23 12 22), []), ((w' 24 (.p (.idxArr 32 1 (.t 23) (.t 21)))), []), ((ld' 25 1 24), []), ((mv' 7 18), []), ((mv' 8 25), [])])
 (.seq (.seq (.reg [(fa' 26 0 5), (ld' 27 1 26), (w' 28 (.call (.f 78) [(.t 27)]))])
 (.block 0 (.seq (.seq (.reg [(w' 30 (.p (.bin 0 .eql (.t 28) (.c (i6' 2))))), (mv' 29 30)])
 (.cond (.t 29) .skip
 (.reg [(w' 31 (.p (.bin 0 .eql (.t 28) (.c (i6' 3))))), (mv' 29 31)])))
 (.cond (.t 29) (.seq (.reg [(fa' 33 0 5), (ld' 34 1 33), (mv' 35 7), (mv' 36 8), (w' 37 (.call (.f 89) [(.t 34), (.t 35), (.t 36)])), (mv' 32 37), (ex' 38 0 32), (ex' 39 1 32), (mv' 9 38), (mv' 10 39)])
 (.seq (.draw [((lg' 40 8 5), []), ((mv' 41 1), []), ((nc' 42 41), []), ((fa' 43 11 42), []), ((ld' 44 1 43), []), ((mv' 45 7), []), ((mv' 46 8), []), ((w' 47 (.call (.f 75) [(.t 40), (.t 44), (.t 45), (.t 46)])), []), ((mv' 11 47), [])])
 (.seq (.reg [(mv' 48 11), (w' 49 (.p (.bin 0 .rem (.t 48) (.c (u3' 4))))), (w' 50 (.p (.bin 0 .neq (.t 49) (.c (u3' 0))))), (mv' 51 50), (gt' 52 51 (.p (.mv (.t 9)))), (gt' 53 51 (.p (.mv (.t 52)))), (gf' 54 53 (.p (.mv (.t 10)))), (gf' 55 53 (.p (.un .not (.t 54)))), (gt' 56 51 (.pick (.t 53) (.c (bo' true)) (.t 55))), (w' 57 (.pick (.t 51) (.t 56) (.c (bo' false))))])
 (.cond (.t 57) (.seq (.reg [(mv' 58 0), (mv' 59 11), (w' 60 (.call (.f 62) [(.t 58), (.c (u3' 0)), (.t 59)])), (so' 6 6 60)])
 .ret)
 .skip))))
 (.seq (.seq (.reg [(w' 62 (.p (.bin 0 .eql (.t 28) (.c (i6' 4))))), (mv' 61 62)])
 (.cond (.t 61) .skip
 (.seq (.reg [(w' 63 (.p (.bin 0 .eql (.t 28) (.c (i6' 5))))), (mv' 61 63)])
 (.cond (.t 61) .skip
 (.reg [(w' 64 (.p (.bin 0 .eql (.t 28) (.c (i6' 6))))), (mv' 61 64)])))))
 (.cond (.t 61) (.seq (.reg [(mv' 65 0), (mv' 66 1), (lg' 67 8 5), (mv' 68 7), (w' 69 (.call (.f 90) [(.t 65), (.t 66), (.t 67), (.t 68)])), (so' 6 6 69)])
 .ret)
 (.seq (.reg [(w' 71 (.p (.bin 0 .eql (.t 28) (.c (i6' 7))))), (mv' 70 71)])
 (.cond (.t 70) (.seq (.reg [(mv' 72 0), (mv' 73 1), (lg' 74 8 5), (w' 75 (.call (.f 91) [(.t 72), (.t 73), (.t 74)])), (so' 6 6 75)])
 .ret)
 .skip))))))))
 (.seq (.reg [(mv' 76 0), (w' 77 (.call (.f 92) [(.t 76)])), (so' 6 6 77)])
 .ret))))⟩
/- (*corral/hart.Draft).list -/
def af66 : AFunc := ⟨14, [.t 4],
 (.seq (.reg [(w' 4 (.p (.mv (.c .nilPtr))))])
 (.seq (.seq (.reg [(mv' 5 1)])
 (.cond (.t 5) (.seq (.reg [(mv' 6 0), (nc' 7 6), (fa' 8 0 7), (fa' 9 6 8), (mv' 4 9)])
 .ret)
 .skip))
 (.seq (.reg [(mv' 10 0), (nc' 11 10), (fa' 12 0 11), (fa' 13 7 12), (mv' 4 13)])
 .ret)))⟩
/- corral/hart.Bells -/
def af67 : AFunc := ⟨21, [.t 2, .t 3],
 (.seq (.reg [(w' 2 (.p (.mv (.c (i6' 0))))), (w' 3 (.p (.mv (.c (bo' false)))))])
 (.seq (.reg [(mv' 5 0), (w' 6 (.p (.bin 0 .sub (.t 5) (.c (u3' 1073741824))))), (mv' 4 6)])
 (.seq (.reg [(mv' 7 4), (w' 8 (.p (.bin 0 .quo (.t 7) (.c (u3' 4))))), (w' 9 (.p (.conv .i64 (.t 8)))), (mv' 10 0), (w' 11 (.p (.bin 0 .geq (.t 10) (.c (u3' 1073741824))))), (mv' 12 11), (gt' 13 12 (.p (.mv (.t 4)))), (gt' 14 12 (.p (.bin 0 .lss (.t 13) (.c (u3' 16))))), (w' 15 (.pick (.t 12) (.t 14) (.c (bo' false)))), (mv' 16 15), (gt' 17 16 (.p (.mv (.t 4)))), (gt' 18 16 (.p (.bin 0 .rem (.t 17) (.c (u3' 4))))), (gt' 19 16 (.p (.bin 0 .eql (.t 18) (.c (u3' 0))))), (w' 20 (.pick (.t 16) (.t 19) (.c (bo' false)))), (mv' 2 9), (mv' 3 20)])
 .ret)))⟩
/- (*corral/seq.Machine).ring -/
def af68 : AFunc := ⟨25, [],
 (.seq (.reg [(mv' 7 0), (mv' 8 1), (w' 9 (.call (.f 24) [(.t 7), (.t 8)])), (mv' 6 9)])
 (.seq (.seq (.reg [(mv' 10 6), (w' 11 (.p (.nilEq 0 false (.t 10) (.c .nilPtr))))])
 (.cond (.t 11) .ret
 .skip))
 (.seq (.reg [(mv' 12 6), (nc' 13 12), (fa' 14 0 13), (ld' 15 1 14), (nc' 16 15), (fa' 17 0 16), (mv' 18 2), (w' 19 (.call (.f 72) [(.t 17), (.t 18)]))])
 (.seq (.reg [(mv' 20 6), (w' 21 (.call (.f 57) [(.t 20)]))])
 (.cond (.t 21) (.reg [(mv' 22 6), (nc' 23 22), (fa' 24 3 23), ⟨none, (.store 1 (.t 24) (.c (bo' false))), none⟩])
 .skip)))))⟩
/- (*corral/mem.Memory).Store -/
def af69 : AFunc := ⟨23, [.t 8],
 (.seq (.reg [(w' 8 (.p (.mv (.c (bo' false)))))])
 (.seq (.seq (.reg [(mv' 9 0), (mv' 10 1), (mv' 11 2), (w' 12 (.call (.f 22) [(.t 9), (.t 10), (.t 11)])), (w' 13 (.p (.un .not (.t 12))))])
 (.cond (.t 13) (.seq (.reg [(w' 8 (.p (.mv (.c (bo' false)))))])
 .ret)
 .skip))
 (.seq (.reg [(mv' 14 0), (nc' 15 14), (fa' 16 0 15), (ld' 17 1 16), (mv' 18 1), (w' 19 (.p (.slice 1 (.t 17) (some (.t 18)) none))), (mv' 20 2), (mv' 21 3), (w' 22 (.call (.f 31) [(.t 19), (.t 20), (.t 21)]))])
 (.seq (.reg [(w' 8 (.p (.mv (.c (bo' true)))))])
 .ret))))⟩
/- (*corral/csr.File).All -/
def af70 : AFunc := ⟨44, [.t 2],
 (.seq (.reg [(w' 2 (.p (.mv (.c .nilSlice))))])
 (.seq (.draw [((mv' 3 0), []), ((nc' 4 3), []), ((fa' 5 1 4), []), ((ld' 6 1 5), []), ((mv' 7 0), []), ((nc' 8 7), []), ((fa' 9 2 8), []), ((ld' 10 1 9), []), ((mv' 11 0), []), ((nc' 12 11), []), ((fa' 13 3 12), []), ((ld' 14 1 13), []), ((mv' 15 0), []), ((nc' 16 15), []), ((fa' 17 4 16), []), ((ld' 18 1 17), []), ((mv' 19 0), []), ((nc' 20 19), []), ((fa' 21 5 20), []), ((ld' 22 1 21), []), ((mv' 23 0), []), ((nc' 24 23), []), ((fa' 25 6 24), []), ((ld' 26 1 25), []), ((mv' 27 0), []), ((nc' 28 27), []), ((fa' 29 7 28), []), ((ld' 30 1 29), []), ((mv' 31 0), []), ((nc' 32 31), []), ((fa' 33 8 32), []), ((ld' 34 1 33), []), ((mv' 35 0), []), ((nc' 36 35), []), ((fa' 37 9 36), []), ((ld' 38 1 37), []), ((mv' 39 0), []), ((nc' 40 39), []), ((fa' 41 10 40), []), ((ld' 42 1 41), []), ((w' 43 (.mkArr 1 10 [(u3' 0)] [(0, 1, (.t 6)), (1, 1, (.t 10)), (2, 1, (.t 14)), (3, 1, (.t 18)), (4, 1, (.t 22)), (5, 1, (.t 26)), (6, 1, (.t 30)), (7, 1, (.t 34)), (8, 1, (.t 38)), (9, 1, (.t 42))])), []), ((mv' 2 43), [])])
 .ret))⟩
/- (*corral/csr.File).at -/
def af71 : AFunc := ⟨56, [.t 4],
 (.seq (.reg [(w' 4 (.p (.mv (.c .nilPtr))))])
 (.seq (.seq (.reg [(mv' 5 1)])
 (.block 0 (.seq (.reg [(w' 7 (.p (.bin 0 .eql (.t 5) (.c (i6' 384))))), (mv' 6 7)])
 (.cond (.t 6) (.seq (.reg [(mv' 8 0), (nc' 9 8), (fa' 10 1 9), (mv' 4 10)])
 .ret)
 (.seq (.reg [(w' 12 (.p (.bin 0 .eql (.t 5) (.c (i6' 768))))), (mv' 11 12)])
 (.cond (.t 11) (.seq (.reg [(mv' 13 0), (nc' 14 13), (fa' 15 2 14), (mv' 4 15)])
 .ret)
 (.seq (.reg [(w' 17 (.p (.bin 0 .eql (.t 5) (.c (i6' 772))))), (mv' 16 17)])
 (.cond (.t 16) (.seq (.reg [(mv' 18 0), (nc' 19 18), (fa' 20 3 19), (mv' 4 20)])
 .ret)
 (.seq (.reg [(w' 22 (.p (.bin 0 .eql (.t 5) (.c (i6' 773))))), (mv' 21 22)])
 (.cond (.t 21) (.seq (.reg [(mv' 23 0), (nc' 24 23), (fa' 25 4 24), (mv' 4 25)])
 .ret)
 (.seq (.reg [(w' 27 (.p (.bin 0 .eql (.t 5) (.c (i6' 832))))), (mv' 26 27)])
 (.cond (.t 26) (.seq (.reg [(mv' 28 0), (nc' 29 28), (fa' 30 5 29), (mv' 4 30)])
 .ret)
 (.seq (.reg [(w' 32 (.p (.bin 0 .eql (.t 5) (.c (i6' 833))))), (mv' 31 32)])
 (.cond (.t 31) (.seq (.reg [(mv' 33 0), (nc' 34 33), (fa' 35 6 34), (mv' 4 35)])
 .ret)
 (.seq (.reg [(w' 37 (.p (.bin 0 .eql (.t 5) (.c (i6' 834))))), (mv' 36 37)])
 (.cond (.t 36) (.seq (.reg [(mv' 38 0), (nc' 39 38), (fa' 40 7 39), (mv' 4 40)])
 .ret)
 (.seq (.reg [(w' 42 (.p (.bin 0 .eql (.t 5) (.c (i6' 835))))), (mv' 41 42)])
 (.cond (.t 41) (.seq (.reg [(mv' 43 0), (nc' 44 43), (fa' 45 8 44), (mv' 4 45)])
 .ret)
 (.seq (.reg [(w' 47 (.p (.bin 0 .eql (.t 5) (.c (i6' 836))))), (mv' 46 47)])
 (.cond (.t 46) (.seq (.reg [(mv' 48 0), (nc' 49 48), (fa' 50 9 49), (mv' 4 50)])
 .ret)
 (.seq (.reg [(w' 52 (.p (.bin 0 .eql (.t 5) (.c (i6' 3860))))), (mv' 51 52)])
 (.cond (.t 51) (.seq (.reg [(mv' 53 0), (nc' 54 53), (fa' 55 10 54), (mv' 4 55)])
 .ret)
 .skip))))))))))))))))))))))
 (.seq (.reg [(w' 4 (.p (.mv (.c .nilPtr))))])
 .ret)))⟩
/- (*corral/csr.File).Bell -/
def af72 : AFunc := ⟨11, [],
 (.seq (.reg [(mv' 4 0), (nc' 5 4), (fa' 6 9 5), ⟨none, (.store 1 (.t 6) (.c (u3' 0))), none⟩])
 (.seq (.reg [(mv' 7 1)])
 (.cond (.t 7) (.reg [(mv' 8 0), (nc' 9 8), (fa' 10 9 9), ⟨none, (.store 1 (.t 10) (.c (u3' 8))), none⟩])
 .skip)))⟩
/- corral/word.Bits -/
def af73 : AFunc := ⟨23, [.t 6],
 (.seq (.reg [(w' 6 (.p (.mv (.c (u3' 0)))))])
 (.seq (.seq (.reg [(mv' 7 1), (w' 8 (.p (.bin 0 .lss (.t 7) (.c (i6' 0))))), (mv' 9 8), (gf' 10 9 (.p (.mv (.t 1)))), (gf' 11 9 (.p (.bin 0 .geq (.t 10) (.c (i6' 32))))), (w' 12 (.pick (.t 9) (.c (bo' true)) (.t 11))), (mv' 13 12), (gf' 14 13 (.p (.mv (.t 2)))), (gf' 15 13 (.p (.bin 0 .lss (.t 14) (.c (i6' 1))))), (w' 16 (.pick (.t 13) (.c (bo' true)) (.t 15)))])
 (.cond (.t 16) (.seq (.reg [(w' 6 (.p (.mv (.c (u3' 0)))))])
 .ret)
 .skip))
 (.seq (.draw [((mv' 17 0), []), ((mv' 18 1), []), ((w' 19 (.p (.bin 0 .shr (.t 17) (.t 18)))), []), ((mv' 20 2), []), ((w' 21 (.call (.f 40) [(.t 20)])), []), ((w' 22 (.p (.bin 0 .and (.t 19) (.t 21)))), []), ((mv' 6 22), [])])
 .ret)))⟩
/- (*corral/csr.File).Trap -/
def af74 : AFunc := ⟨45, [.t 8],
 (.seq (.reg [(w' 8 (.p (.mv (.c (u3' 0)))))])
 (.seq (.reg [(mv' 10 0), (w' 11 (.call (.f 88) [(.t 10)])), (w' 12 (.p (.conv .u32 (.t 11)))), (mv' 9 12)])
 (.seq (.reg [(mv' 13 0), (mv' 14 0), (mv' 15 0), (mv' 16 3), (w' 17 (.p (.bin 0 .and (.t 16) (.c (u3' 4294967292))))), (mv' 18 1), (mv' 19 2), (nc' 20 13), (fa' 21 6 20), (so' 1 21 17), (nc' 22 14), (fa' 23 7 22), (so' 1 23 18), (nc' 24 15), (fa' 25 8 24), (so' 1 25 19)])
 (.seq (.reg [(mv' 26 0), (mv' 27 0), (nc' 28 27), (fa' 29 2 28), (ld' 30 1 29), (w' 31 (.p (.bin 0 .and (.t 30) (.c (u3' 8))))), (w' 32 (.p (.bin 0 .shl (.t 31) (.c (.int .u64 (.lit 4)))))), (mv' 33 9), (w' 34 (.p (.bin 0 .shl (.t 33) (.c (.int .u64 (.lit 11)))))), (w' 35 (.p (.bin 0 .or (.t 32) (.t 34)))), (nc' 36 26), (fa' 37 2 36), (so' 1 37 35)])
 (.seq (.reg [(mv' 38 0), (nc' 39 38), (fa' 40 0 39), ⟨none, (.store 1 (.t 40) (.c (bo' false))), none⟩])
 (.seq (.reg [(mv' 41 0), (nc' 42 41), (fa' 43 4 42), (ld' 44 1 43), (mv' 8 44)])
 .ret))))))⟩
/- corral/alu.Next -/
def af75 : AFunc := ⟨41, [.t 8],
 (.seq (.reg [(w' 4 (.box 8 (.t 0))), (w' 8 (.p (.mv (.c (u3' 0)))))])
 (.seq (.reg [(fa' 12 0 4), (ld' 13 1 12), (mv' 14 2), (mv' 15 3), (w' 16 (.call (.f 89) [(.t 13), (.t 14), (.t 15)])), (mv' 11 16), (ex' 17 0 11), (ex' 18 1 11), (mv' 9 17), (mv' 10 18)])
 (.seq (.block 0 (.seq (.reg [(fa' 20 0 4), (ld' 21 1 20), (w' 22 (.p (.bin 0 .eql (.t 21) (.c (i6' 4))))), (mv' 19 22)])
 (.cond (.t 19) (.seq (.reg [(mv' 23 2), (fa' 24 5 4), (ld' 25 1 24), (w' 26 (.p (.bin 0 .add (.t 23) (.t 25)))), (w' 27 (.p (.bin 0 .andNot (.t 26) (.c (u3' 1))))), (mv' 8 27)])
 .ret)
 (.seq (.reg [(fa' 29 0 4), (ld' 30 1 29), (w' 31 (.p (.bin 0 .eql (.t 30) (.c (i6' 3))))), (mv' 32 31), (gf' 33 32 (.p (.mv (.t 9)))), (w' 34 (.pick (.t 32) (.c (bo' true)) (.t 33))), (mv' 28 34)])
 (.cond (.t 28) (.seq (.reg [(mv' 35 1), (fa' 36 5 4), (ld' 37 1 36), (w' 38 (.p (.bin 0 .add (.t 35) (.t 37)))), (mv' 8 38)])
 .ret)
 .skip)))))
 (.seq (.reg [(mv' 39 1), (w' 40 (.p (.bin 0 .add (.t 39) (.c (u3' 4))))), (mv' 8 40)])
 .ret))))⟩
/- corral/alu.Result -/
def af76 : AFunc := ⟨44, [.t 8, .t 9],
 (.seq (.reg [(w' 4 (.box 8 (.t 0))), (w' 8 (.p (.mv (.c (u3' 0))))), (w' 9 (.p (.mv (.c (bo' false)))))])
 (.seq (.seq (.reg [(fa' 10 0 4), (ld' 11 1 10)])
 (.block 0 (.seq (.reg [(w' 13 (.p (.bin 0 .eql (.t 11) (.c (i6' 1))))), (mv' 12 13)])
 (.cond (.t 12) (.seq (.reg [(fa' 14 5 4), (ld' 15 1 14), (mv' 8 15), (w' 9 (.p (.mv (.c (bo' true)))))])
 .ret)
 (.seq (.reg [(w' 17 (.p (.bin 0 .eql (.t 11) (.c (i6' 2))))), (mv' 16 17)])
 (.cond (.t 16) (.seq (.reg [(mv' 18 1), (fa' 19 5 4), (ld' 20 1 19), (w' 21 (.p (.bin 0 .add (.t 18) (.t 20)))), (mv' 8 21), (w' 9 (.p (.mv (.c (bo' true)))))])
 .ret)
 (.seq (.seq (.reg [(w' 23 (.p (.bin 0 .eql (.t 11) (.c (i6' 3))))), (mv' 22 23)])
 (.cond (.t 22) .skip
 (.reg [(w' 24 (.p (.bin 0 .eql (.t 11) (.c (i6' 4))))), (mv' 22 24)])))
 (.cond (.t 22) (.seq (.reg [(mv' 25 1), (w' 26 (.p (.bin 0 .add (.t 25) (.c (u3' 4))))), (mv' 8 26), (w' 9 (.p (.mv (.c (bo' true)))))])
 .ret)
 .skip))))))))
 (.seq (.seq (.reg [(fa' 27 0 4), (ld' 28 1 27), (w' 29 (.p (.bin 0 .geq (.t 28) (.c (i6' 19))))), (mv' 30 29), (gt' 31 30 (.p (.fieldAddr 0 (.t 4)))), (gt' 32 30 (.load false 1 (.t 31))), (gt' 33 30 (.p (.bin 0 .leq (.t 32) (.c (i6' 27))))), (w' 34 (.pick (.t 30) (.t 33) (.c (bo' false))))])
 (.cond (.t 34) (.reg [(fa' 35 5 4), (ld' 36 1 35), (mv' 3 36)])
 .skip))
 (.seq (.reg [(fa' 37 0 4), (ld' 38 1 37), (mv' 39 2), (mv' 40 3), (w' 41 (.call (.f 93) [(.t 38), (.t 39), (.t 40)])), (ex' 42 0 41), (ex' 43 1 41), (mv' 8 42), (mv' 9 43)])
 .ret))))⟩
/- (*corral/hart.Hart).set -/
def af77 : AFunc := ⟨14, [],
 (.seq (.reg [(mv' 6 1), (w' 7 (.p (.bin 0 .neq (.t 6) (.c (i6' 0)))))])
 (.cond (.t 7) (.reg [(mv' 8 0), (mv' 9 1), (mv' 10 2), (nc' 11 8), (fa' 12 12 11), (w' 13 (.p (.idxArr 32 1 (.t 12) (.t 9)))), (so' 1 13 10)])
 .skip))⟩
/- corral/isa.Kind -/
def af78 : AFunc := ⟨12, [.t 2],
 (.seq (.reg [(w' 2 (.p (.mv (.c (i6' 0)))))])
 (.seq (.reg [(mv' 6 0), (w' 7 (.call (.f 94) [(.t 6)])), (mv' 5 7), (ex' 8 0 5), (ex' 9 1 5), ⟨(some 3), (.newC [(i6' 0), (.str ⟨#[]⟩), (i6' 0), (u3' 0), (u3' 0), (u3' 0), (i6' 0)]), none⟩, (so' 7 3 8), (mv' 4 9)])
 (.seq (.reg [(fa' 10 6 3), (ld' 11 1 10), (mv' 2 11)])
 .ret)))⟩
/- (*corral/hart.Hart).access -/
def af79 : AFunc := ⟨81, [.cell 8 true 7],
 (.seq (.reg [(w' 5 (.box 8 (.t 1))), (w' 6 (.box 13 (.t 2))), (w' 8 (.newC [(i6' 0), (u3' 0), (i6' 0), (u3' 0), (bo' false), (bo' false), (bo' false)]))])
 (.seq (.draw [((fa' 10 4 6), []), ((ld' 11 1 10), [4]), ((fa' 12 0 5), []), ((ld' 13 1 12), []), ((w' 14 (.call (.f 95) [(.t 13)])), []), ((w' 15 (.p (.build [(i6' 0), (u3' 0), (i6' 0), (u3' 0), (bo' false), (bo' false), (bo' false)] [(1, 1, (.t 11)), (2, 1, (.t 14))]))), []), ((w' 9 (.newC [(i6' 0), (u3' 0), (i6' 0), (u3' 0), (bo' false), (bo' false), (bo' false)])), []), ((so' 7 9 15), [])])
 (.seq (.seq (.reg [(fa' 16 0 5), (ld' 17 1 16), (w' 18 (.call (.f 78) [(.t 17)]))])
 (.block 0 (.seq (.reg [(w' 20 (.p (.bin 0 .eql (.t 18) (.c (i6' 4))))), (mv' 19 20)])
 (.cond (.t 19) (.seq (.reg [(fa' 21 0 9), ⟨none, (.store 1 (.t 21) (.c (i6' 1))), none⟩])
 (.seq (.draw [((mv' 22 0), []), ((fa' 23 1 5), []), ((ld' 24 1 23), [7]), ((fa' 25 0 5), []), ((ld' 26 1 25), []), ((fa' 27 5 6), []), ((ld' 28 1 27), []), ((w' 29 (.call (.f 96) [(.t 26), (.t 28)])), []), ((w' 30 (.call (.f 77) [(.t 22), (.t 24), (.t 29)])), [])])
 (.seq (.reg [(lg' 31 7 9), (so' 7 8 31)])
 .ret)))
 (.seq (.reg [(w' 33 (.p (.bin 0 .eql (.t 18) (.c (i6' 5))))), (mv' 32 33)])
 (.cond (.t 32) (.seq (.reg [(fa' 34 0 5), (ld' 35 1 34), (mv' 36 3), (w' 37 (.call (.f 97) [(.t 35), (.t 36)])), (fa' 38 0 9), ⟨none, (.store 1 (.t 38) (.c (i6' 2))), none⟩, (fa' 39 3 9), (so' 1 39 37)])
 (.seq (.reg [(lg' 40 7 9), (so' 7 8 40)])
 .ret))
 .skip))))))
 (.seq (.seq (.reg [(fa' 41 0 5), (ld' 42 1 41), (w' 43 (.p (.bin 0 .neq (.t 42) (.c (i6' 60)))))])
 (.cond (.t 43) (.seq (.reg [(fa' 44 0 9), ⟨none, (.store 1 (.t 44) (.c (i6' 3))), none⟩])
 (.seq (.reg [(fa' 46 0 5), (ld' 47 1 46), (fa' 48 5 6), (ld' 49 1 48), (mv' 50 3), (w' 51 (.call (.f 98) [(.t 47), (.t 49), (.t 50)])), (mv' 45 51), (ex' 52 0 45), (ex' 53 1 45), (fa' 54 3 9), (so' 1 54 52)])
 (.seq (.reg [(mv' 55 0), (fa' 56 1 5), (ld' 57 1 56), (fa' 58 5 6), (ld' 59 1 58), (w' 60 (.call (.f 77) [(.t 55), (.t 57), (.t 59)]))])
 (.seq (.reg [(lg' 61 7 9), (so' 7 8 61)])
 .ret))))
 .skip))
 (.seq (.seq (.reg [(fa' 62 10 6), (ld' 63 1 62), (w' 64 (.p (.un .not (.t 63))))])
 (.cond (.t 64) (.seq (.reg [(mv' 65 0), (fa' 66 1 5), (ld' 67 1 66), (w' 68 (.call (.f 77) [(.t 65), (.t 67), (.c (u3' 1))]))])
 (.seq (.reg [(w' 69 (.p (.build [(i6' 0), (u3' 0), (i6' 0), (u3' 0), (bo' false), (bo' false), (bo' false)] []))), (so' 7 8 69)])
 .ret))
 .skip))
 (.seq (.reg [(fa' 70 0 5), (ld' 71 1 70), (mv' 72 3), (w' 73 (.call (.f 97) [(.t 71), (.t 72)])), (fa' 74 0 9), ⟨none, (.store 1 (.t 74) (.c (i6' 2))), none⟩, (fa' 75 3 9), (so' 1 75 73)])
 (.seq (.reg [(mv' 76 0), (fa' 77 1 5), (ld' 78 1 77), (w' 79 (.call (.f 77) [(.t 76), (.t 78), (.c (u3' 0))]))])
 (.seq (.reg [(lg' 80 7 9), (so' 7 8 80)])
 .ret))))))))⟩
/- (*corral/hart.Hart).other -/
def af80 : AFunc := ⟨84, [.cell 10 true 7, .t 11],
 (.seq (.reg [(w' 6 (.box 8 (.t 1))), (w' 7 (.box 13 (.t 2))), (w' 10 (.newC [(i6' 0), (u3' 0), (i6' 0), (u3' 0), (bo' false), (bo' false), (bo' false)])), (w' 11 (.p (.mv (.c (u3' 0)))))])
 (.seq (.seq (.reg [(fa' 16 0 6), (ld' 17 1 16)])
 (.block 0 (.seq (.reg [(w' 19 (.p (.bin 0 .eql (.t 17) (.c (i6' 38))))), (mv' 18 19)])
 (.cond (.t 18) (.seq (.reg [(fa' 20 5 6), (ld' 21 1 20), (w' 22 (.p (.build [(i6' 0), (u3' 0), (i6' 0), (u3' 0), (bo' false), (bo' false), (bo' false)] [(0, 1, (.c (i6' 4))), (3, 1, (.t 21))]))), (mv' 23 4), (so' 7 10 22), (mv' 11 23)])
 .ret)
 (.seq (.reg [(w' 25 (.p (.bin 0 .eql (.t 17) (.c (i6' 39))))), (mv' 24 25)])
 (.cond (.t 24) (.seq (.reg [(w' 26 (.p (.build [(i6' 0), (u3' 0), (i6' 0), (u3' 0), (bo' false), (bo' false), (bo' false)] [(4, 1, (.c (bo' true)))]))), (mv' 27 4), (so' 7 10 26), (mv' 11 27)])
 .ret)
 (.seq (.reg [(w' 29 (.p (.bin 0 .eql (.t 17) (.c (i6' 44))))), (mv' 28 29)])
 (.cond (.t 28) (.seq (.reg [(w' 30 (.p (.build [(i6' 0), (u3' 0), (i6' 0), (u3' 0), (bo' false), (bo' false), (bo' false)] [(5, 1, (.c (bo' true)))]))), (mv' 31 4), (so' 7 10 30), (mv' 11 31)])
 .ret)
 (.seq (.reg [(w' 33 (.p (.bin 0 .eql (.t 17) (.c (i6' 43))))), (mv' 32 33)])
 (.cond (.t 32) (.seq (.reg [(w' 34 (.p (.build [(i6' 0), (u3' 0), (i6' 0), (u3' 0), (bo' false), (bo' false), (bo' false)] [(6, 1, (.c (bo' true)))]))), (mv' 35 4), (so' 7 10 34), (mv' 11 35)])
 .ret)
 (.seq (.reg [(w' 37 (.p (.bin 0 .eql (.t 17) (.c (i6' 42))))), (mv' 36 37)])
 (.cond (.t 36) (.seq (.reg [(w' 38 (.p (.build [(i6' 0), (u3' 0), (i6' 0), (u3' 0), (bo' false), (bo' false), (bo' false)] []))), (mv' 39 0), (nc' 40 39), (fa' 41 0 40), (w' 42 (.call (.f 99) [(.t 41)])), (so' 7 10 38), (mv' 11 42)])
 .ret)
 .skip))))))))))))
 (.seq (.seq (.reg [(fa' 43 4 6), (ld' 44 1 43), (w' 45 (.p (.bin 0 .eql (.t 44) (.c (i6' 836)))))])
 (.cond (.t 45) (.draw [((mv' 46 0), []), ((nc' 47 46), []), ((fa' 48 0 47), []), ((fa' 49 5 7), []), ((ld' 50 1 49), []), ((w' 51 (.p (.bin 0 .neq (.t 50) (.c (u3' 0))))), []), ((w' 52 (.call (.f 72) [(.t 48), (.t 51)])), [])])
 .skip))
 (.seq (.draw [((mv' 54 0), []), ((nc' 55 54), []), ((fa' 56 0 55), []), ((fa' 57 4 6), []), ((ld' 58 1 57), []), ((w' 59 (.call (.f 52) [(.t 56), (.t 58)])), []), ((mv' 53 59), []), ((ex' 60 0 53), []), ((ex' 61 1 53), []), ((mv' 12 60), []), ((mv' 13 61), [])])
 (.seq (.reg [(lg' 63 8 6), (mv' 64 12), (mv' 65 3), (w' 66 (.call (.f 100) [(.t 63), (.t 64), (.t 65)])), (mv' 62 66), (ex' 67 0 62), (ex' 68 1 62), (mv' 14 67), (mv' 15 68)])
 (.seq (.seq (.reg [(mv' 69 15)])
 (.cond (.t 69) (.draw [((mv' 70 0), []), ((nc' 71 70), []), ((fa' 72 0 71), []), ((fa' 73 4 6), []), ((ld' 74 1 73), []), ((mv' 75 14), []), ((w' 76 (.call (.f 101) [(.t 72), (.t 74), (.t 75)])), [])])
 .skip))
 (.seq (.reg [(mv' 77 0), (fa' 78 1 6), (ld' 79 1 78), (mv' 80 12), (w' 81 (.call (.f 77) [(.t 77), (.t 79), (.t 80)]))])
 (.seq (.reg [(w' 82 (.p (.build [(i6' 0), (u3' 0), (i6' 0), (u3' 0), (bo' false), (bo' false), (bo' false)] []))), (mv' 83 4), (so' 7 10 82), (mv' 11 83)])
 .ret))))))))⟩
end Go.Proofs.YtlgfmmccnilkmaaGreatDoor.seqPages

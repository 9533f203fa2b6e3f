/- The functions that SeqBells comes to, as the symbolic machine runs them, each held against the program's. No condition. -/
import Derived.Test.YtaclekenckkgcaaGreatDoorESeqBellsa
namespace Go.Proofs.YtaclekenckkgcaaGreatDoor.seqBells
open Go.Sx
set_option linter.unusedVariables false
set_option linter.unusedSimpArgs false
set_option maxRecDepth 1000000
/- corral/isa.rows -/
def af81 : AFunc := ⟨71, [.t 0],
 (.seq (.reg [⟨(some 0), (.p (.mv (.c .nilSlice))), none⟩])
 (.seq (.reg [⟨(some 1), (.p (.build [(.int .i64 (.lit 0)), (.str ⟨#[]⟩), (.int .i64 (.lit 0)), (.int .u32 (.lit 0)), (.int .u32 (.lit 0)), (.int .u32 (.lit 0)), (.int .i64 (.lit 0))] [(0, 1, (.c (.int .i64 (.lit 1)))), (1, 1, (.c (.str ⟨#[108, 117, 105]⟩))), (2, 1, (.c (.int .i64 (.lit 0)))), (3, 1, (.c (.int .u32 (.lit 55)))), (4, 1, (.c (.int .u32 (.lit 0)))), (5, 1, (.c (.int .u32 (.lit 0)))), (6, 1, (.c (.int .i64 (.lit 1))))])), none⟩, ⟨(some 2), (.p (.build [(.int .i64 (.lit 0)), (.str ⟨#[]⟩), (.int .i64 (.lit 0)), (.int .u32 (.lit 0)), (.int .u32 (.lit 0)), (.int .u32 (.lit 0)), (.int .i64 (.lit 0))] [(0, 1, (.c (.int .i64 (.lit 2)))), (1, 1, (.c (.str ⟨#[97, 117, 105, 112, 99]⟩))), (2, 1, (.c (.int .i64 (.lit 0)))), (3, 1, (.c (.int .u32 (.lit 23)))), (4, 1, (.c (.int .u32 (.lit 0)))), (5, 1, (.c (.int .u32 (.lit 0)))), (6, 1, (.c (.int .i64 (.lit 1))))])), none⟩, ⟨(some 3), (.p (.build [(.int .i64 (.lit 0)), (.str ⟨#[]⟩), (.int .i64 (.lit 0)), (.int .u32 (.lit 0)), (.int .u32 (.lit 0)), (.int .u32 (.lit 0)), (.int .i64 (.lit 0))] [(0, 1, (.c (.int .i64 (.lit 3)))), (1, 1, (.c (.str ⟨#[106, 97, 108]⟩))), (2, 1, (.c (.int .i64 (.lit 1)))), (3, 1, (.c (.int .u32 (.lit 111)))), (4, 1, (.c (.int .u32 (.lit 0)))), (5, 1, (.c (.int .u32 (.lit 0)))), (6, 1, (.c (.int .i64 (.lit 2))))])), none⟩, ⟨(some 4), (.p (.build [(.int .i64 (.lit 0)), (.str ⟨#[]⟩), (.int .i64 (.lit 0)), (.int .u32 (.lit 0)), (.int .u32 (.lit 0)), (.int .u32 (.lit 0)), (.int .i64 (.lit 0))] [(0, 1, (.c (.int .i64 (.lit 4)))), (1, 1, (.c (.str ⟨#[106, 97, 108, 114]⟩))), (2, 1, (.c (.int .i64 (.lit 2)))), (3, 1, (.c (.int .u32 (.lit 103)))), (4, 1, (.c (.int .u32 (.lit 0)))), (5, 1, (.c (.int .u32 (.lit 0)))), (6, 1, (.c (.int .i64 (.lit 2))))])), none⟩, ⟨(some 5), (.p (.build [(.int .i64 (.lit 0)), (.str ⟨#[]⟩), (.int .i64 (.lit 0)), (.int .u32 (.lit 0)), (.int .u32 (.lit 0)), (.int .u32 (.lit 0)), (.int .i64 (.lit 0))] [(0, 1, (.c (.int .i64 (.lit 5)))), (1, 1, (.c (.str ⟨#[98, 101, 113]⟩))), (2, 1, (.c (.int .i64 (.lit 3)))), (3, 1, (.c (.int .u32 (.lit 99)))), (4, 1, (.c (.int .u32 (.lit 0)))), (5, 1, (.c (.int .u32 (.lit 0)))), (6, 1, (.c (.int .i64 (.lit 3))))])), none⟩, ⟨(some 6), (.p (.build [(.int .i64 (.lit 0)), (.str ⟨#[]⟩), (.int .i64 (.lit 0)), (.int .u32 (.lit 0)), (.int .u32 (.lit 0)), (.int .u32 (.lit 0)), (.int .i64 (.lit 0))] [(0, 1, (.c (.int .i64 (.lit 6)))), (1, 1, (.c (.str ⟨#[98, 110, 101]⟩))), (2, 1, (.c (.int .i64 (.lit 3)))), (3, 1, (.c (.int .u32 (.lit 99)))), (4, 1, (.c (.int .u32 (.lit 1)))), (5, 1, (.c (.int .u32 (.lit 0)))), (6, 1, (.c (.int .i64 (.lit 3))))])), none⟩, ⟨(some 7), (.p (.build [(.int .i64 (.lit 0)), (.str ⟨#[]⟩), (.int .i64 (.lit 0)), (.int .u32 (.lit 0)), (.int .u32 (.lit 0)), (.int .u32 (.lit 0)), (.int .i64 (.lit 0))] [(0, 1, (.c (.int .i64 (.lit 7)))), (1, 1, (.c (.str ⟨#[98, 108, 116]⟩))), (2, 1, (.c (.int .i64 (.lit 3)))), (3, 1, (.c (.int .u32 (.lit 99)))), (4, 1, (.c (.int .u32 (.lit 4)))), (5, 1, (.c (.int .u32 (.lit 0)))), (6, 1, (.c (.int .i64 (.lit 3))))])), none⟩, ⟨(some 8), (.p (.build [(.int .i64 (.lit 0)), (.str ⟨#[]⟩), (.int .i64 (.lit 0)), (.int .u32 (.lit 0)), (.int .u32 (.lit 0)), (.int .u32 (.lit 0)), (.int .i64 (.lit 0))] [(0, 1, (.c (.int .i64 (.lit 8)))), (1, 1, (.c (.str ⟨#[98, 103, 101]⟩))), (2, 1, (.c (.int .i64 (.lit 3)))), (3, 1, (.c (.int .u32 (.lit 99)))), (4, 1, (.c (.int .u32 (.lit 5)))), (5, 1, (.c (.int .u32 (.lit 0)))), (6, 1, (.c (.int .i64 (.lit 3))))])), none⟩, ⟨(some 9), (.p (.build [(.int .i64 (.lit 0)), (.str ⟨#[]⟩), (.int .i64 (.lit 0)), (.int .u32 (.lit 0)), (.int .u32 (.lit 0)), (.int .u32 (.lit 0)), (.int .i64 (.lit 0))] [(0, 1, (.c (.int .i64 (.lit 9)))), (1, 1, (.c (.str ⟨#[98, 108, 116, 117]⟩))), (2, 1, (.c (.int .i64 (.lit 3)))), (3, 1, (.c (.int .u32 (.lit 99)))), (4, 1, (.c (.int .u32 (.lit 6)))), (5, 1, (.c (.int .u32 (.lit 0)))), (6, 1, (.c (.int .i64 (.lit 3))))])), none⟩, ⟨(some 10), (.p (.build [(.int .i64 (.lit 0)), (.str ⟨#[]⟩), (.int .i64 (.lit 0)), (.int .u32 (.lit 0)), (.int .u32 (.lit 0)), (.int .u32 (.lit 0)), (.int .i64 (.lit 0))] [(0, 1, (.c (.int .i64 (.lit 10)))), (1, 1, (.c (.str ⟨#[98, 103, 101, 117]⟩))), (2, 1, (.c (.int .i64 (.lit 3)))), (3, 1, (.c (.int .u32 (.lit 99)))), (4, 1, (.c (.int .u32 (.lit 7)))), (5, 1, (.c (.int .u32 (.lit 0)))), (6, 1, (.c (.int .i64 (.lit 3))))])), none⟩, ⟨(some 11), (.p (.build [(.int .i64 (.lit 0)), (.str ⟨#[]⟩), (.int .i64 (.lit 0)), (.int .u32 (.lit 0)), (.int .u32 (.lit 0)), (.int .u32 (.lit 0)), (.int .i64 (.lit 0))] [(0, 1, (.c (.int .i64 (.lit 11)))), (1, 1, (.c (.str ⟨#[108, 98]⟩))), (2, 1, (.c (.int .i64 (.lit 2)))), (3, 1, (.c (.int .u32 (.lit 3)))), (4, 1, (.c (.int .u32 (.lit 0)))), (5, 1, (.c (.int .u32 (.lit 0)))), (6, 1, (.c (.int .i64 (.lit 4))))])), none⟩, ⟨(some 12), (.p (.build [(.int .i64 (.lit 0)), (.str ⟨#[]⟩), (.int .i64 (.lit 0)), (.int .u32 (.lit 0)), (.int .u32 (.lit 0)), (.int .u32 (.lit 0)), (.int .i64 (.lit 0))] [(0, 1, (.c (.int .i64 (.lit 12)))), (1, 1, (.c (.str ⟨#[108, 104]⟩))), (2, 1, (.c (.int .i64 (.lit 2)))), (3, 1, (.c (.int .u32 (.lit 3)))), (4, 1, (.c (.int .u32 (.lit 1)))), (5, 1, (.c (.int .u32 (.lit 0)))), (6, 1, (.c (.int .i64 (.lit 4))))])), none⟩, ⟨(some 13), (.p (.build [(.int .i64 (.lit 0)), (.str ⟨#[]⟩), (.int .i64 (.lit 0)), (.int .u32 (.lit 0)), (.int .u32 (.lit 0)), (.int .u32 (.lit 0)), (.int .i64 (.lit 0))] [(0, 1, (.c (.int .i64 (.lit 13)))), (1, 1, (.c (.str ⟨#[108, 119]⟩))), (2, 1, (.c (.int .i64 (.lit 2)))), (3, 1, (.c (.int .u32 (.lit 3)))), (4, 1, (.c (.int .u32 (.lit 2)))), (5, 1, (.c (.int .u32 (.lit 0)))), (6, 1, (.c (.int .i64 (.lit 4))))])), none⟩, ⟨(some 14), (.p (.build [(.int .i64 (.lit 0)), (.str ⟨#[]⟩), (.int .i64 (.lit 0)), (.int .u32 (.lit 0)), (.int .u32 (.lit 0)), (.int .u32 (.lit 0)), (.int .i64 (.lit 0))] [(0, 1, (.c (.int .i64 (.lit 14)))), (1, 1, (.c (.str ⟨#[108, 98, 117]⟩))), (2, 1, (.c (.int .i64 (.lit 2)))), (3, 1, (.c (.int .u32 (.lit 3)))), (4, 1, (.c (.int .u32 (.lit 4)))), (5, 1, (.c (.int .u32 (.lit 0)))), (6, 1, (.c (.int .i64 (.lit 4))))])), none⟩, ⟨(some 15), (.p (.build [(.int .i64 (.lit 0)), (.str ⟨#[]⟩), (.int .i64 (.lit 0)), (.int .u32 (.lit 0)), (.int .u32 (.lit 0)), (.int .u32 (.lit 0)), (.int .i64 (.lit 0))] [(0, 1, (.c (.int .i64 (.lit 15)))), (1, 1, (.c (.str ⟨#[108, 104, 117]⟩))), (2, 1, (.c (.int .i64 (.lit 2)))), (3, 1, (.c (.int .u32 (.lit 3)))), (4, 1, (.c (.int .u32 (.lit 5)))), (5, 1, (.c (.int .u32 (.lit 0)))), (6, 1, (.c (.int .i64 (.lit 4))))])), none⟩, ⟨(some 16), (.p (.build [(.int .i64 (.lit 0)), (.str ⟨#[]⟩), (.int .i64 (.lit 0)), (.int .u32 (.lit 0)), (.int .u32 (.lit 0)), (.int .u32 (.lit 0)), (.int .i64 (.lit 0))] [(0, 1, (.c (.int .i64 (.lit 16)))), (1, 1, (.c (.str ⟨#[115, 98]⟩))), (2, 1, (.c (.int .i64 (.lit 4)))), (3, 1, (.c (.int .u32 (.lit 35)))), (4, 1, (.c (.int .u32 (.lit 0)))), (5, 1, (.c (.int .u32 (.lit 0)))), (6, 1, (.c (.int .i64 (.lit 5))))])), none⟩, ⟨(some 17), (.p (.build [(.int .i64 (.lit 0)), (.str ⟨#[]⟩), (.int .i64 (.lit 0)), (.int .u32 (.lit 0)), (.int .u32 (.lit 0)), (.int .u32 (.lit 0)), (.int .i64 (.lit 0))] [(0, 1, (.c (.int .i64 (.lit 17)))), (1, 1, (.c (.str ⟨#[115, 104]⟩))), (2, 1, (.c (.int .i64 (.lit 4)))), (3, 1, (.c (.int .u32 (.lit 35)))), (4, 1, (.c (.int .u32 (.lit 1)))), (5, 1, (.c (.int .u32 (.lit 0)))), (6, 1, (.c (.int .i64 (.lit 5))))])), none⟩, ⟨(some 18), (.p (.build [(.int .i64 (.lit 0)), (.str ⟨#[]⟩), (.int .i64 (.lit 0)), (.int .u32 (.lit 0)), (.int .u32 (.lit 0)), (.int .u32 (.lit 0)), (.int .i64 (.lit 0))] [(0, 1, (.c (.int .i64 (.lit 18)))), (1, 1, (.c (.str ⟨#[115, 119]⟩))), (2, 1, (.c (.int .i64 (.lit 4)))), (3, 1, (.c (.int .u32 (.lit 35)))), (4, 1, (.c (.int .u32 (.lit 2)))), (5, 1, (.c (.int .u32 (.lit 0)))), (6, 1, (.c (.int .i64 (.lit 5))))])), none⟩, ⟨(some 19), (.p (.build [(.int .i64 (.lit 0)), (.str ⟨#[]⟩), (.int .i64 (.lit 0)), (.int .u32 (.lit 0)), (.int .u32 (.lit 0)), (.int .u32 (.lit 0)), (.int .i64 (.lit 0))] [(0, 1, (.c (.int .i64 (.lit 19)))), (1, 1, (.c (.str ⟨#[97, 100, 100, 105]⟩))), (2, 1, (.c (.int .i64 (.lit 2)))), (3, 1, (.c (.int .u32 (.lit 19)))), (4, 1, (.c (.int .u32 (.lit 0)))), (5, 1, (.c (.int .u32 (.lit 0)))), (6, 1, (.c (.int .i64 (.lit 1))))])), none⟩, ⟨(some 20), (.p (.build [(.int .i64 (.lit 0)), (.str ⟨#[]⟩), (.int .i64 (.lit 0)), (.int .u32 (.lit 0)), (.int .u32 (.lit 0)), (.int .u32 (.lit 0)), (.int .i64 (.lit 0))] [(0, 1, (.c (.int .i64 (.lit 20)))), (1, 1, (.c (.str ⟨#[115, 108, 116, 105]⟩))), (2, 1, (.c (.int .i64 (.lit 2)))), (3, 1, (.c (.int .u32 (.lit 19)))), (4, 1, (.c (.int .u32 (.lit 2)))), (5, 1, (.c (.int .u32 (.lit 0)))), (6, 1, (.c (.int .i64 (.lit 1))))])), none⟩, ⟨(some 21), (.p (.build [(.int .i64 (.lit 0)), (.str ⟨#[]⟩), (.int .i64 (.lit 0)), (.int .u32 (.lit 0)), (.int .u32 (.lit 0)), (.int .u32 (.lit 0)), (.int .i64 (.lit 0))] [(0, 1, (.c (.int .i64 (.lit 21)))), (1, 1, (.c (.str ⟨#[115, 108, 116, 105, 117]⟩))), (2, 1, (.c (.int .i64 (.lit 2)))), (3, 1, (.c (.int .u32 (.lit 19)))), (4, 1, (.c (.int .u32 (.lit 3)))), (5, 1, (.c (.int .u32 (.lit 0)))), (6, 1, (.c (.int .i64 (.lit 1))))])), none⟩, ⟨(some 22), (.p (.build [(.int .i64 (.lit 0)), (.str ⟨#[]⟩), (.int .i64 (.lit 0)), (.int .u32 (.lit 0)), (.int .u32 (.lit 0)), (.int .u32 (.lit 0)), (.int .i64 (.lit 0))] [(0, 1, (.c (.int .i64 (.lit 22)))), (1, 1, (.c (.str ⟨#[120, 111, 114, 105]⟩))), (2, 1, (.c (.int .i64 (.lit 2)))), (3, 1, (.c (.int .u32 (.lit 19)))), (4, 1, (.c (.int .u32 (.lit 4)))), (5, 1, (.c (.int .u32 (.lit 0)))), (6, 1, (.c (.int .i64 (.lit 1))))])), none⟩, ⟨(some 23), (.p (.build [(.int .i64 (.lit 0)), (.str ⟨#[]⟩), (.int .i64 (.lit 0)), (.int .u32 (.lit 0)), (.int .u32 (.lit 0)), (.int .u32 (.lit 0)), (.int .i64 (.lit 0))] [(0, 1, (.c (.int .i64 (.lit 23)))), (1, 1, (.c (.str ⟨#[111, 114, 105]⟩))), (2, 1, (.c (.int .i64 (.lit 2)))), (3, 1, (.c (.int .u32 (.lit 19)))), (4, 1, (.c (.int .u32 (.lit 6)))), (5, 1, (.c (.int .u32 (.lit 0)))), (6, 1, (.c (.int .i64 (.lit 1))))])), none⟩, ⟨(some 24), (.p (.build [(.int .i64 (.lit 0)), (.str ⟨#[]⟩), (.int .i64 (.lit 0)), (.int .u32 (.lit 0)), (.int .u32 (.lit 0)), (.int .u32 (.lit 0)), (.int .i64 (.lit 0))] [(0, 1, (.c (.int .i64 (.lit 24)))), (1, 1, (.c (.str ⟨#[97, 110, 100, 105]⟩))), (2, 1, (.c (.int .i64 (.lit 2)))), (3, 1, (.c (.int .u32 (.lit 19)))), (4, 1, (.c (.int .u32 (.lit 7)))), (5, 1, (.c (.int .u32 (.lit 0)))), (6, 1, (.c (.int .i64 (.lit 1))))])), none⟩, ⟨(some 25), (.p (.build [(.int .i64 (.lit 0)), (.str ⟨#[]⟩), (.int .i64 (.lit 0)), (.int .u32 (.lit 0)), (.int .u32 (.lit 0)), (.int .u32 (.lit 0)), (.int .i64 (.lit 0))] [(0, 1, (.c (.int .i64 (.lit 25)))), (1, 1, (.c (.str ⟨#[115, 108, 108, 105]⟩))), (2, 1, (.c (.int .i64 (.lit 5)))), (3, 1, (.c (.int .u32 (.lit 19)))), (4, 1, (.c (.int .u32 (.lit 1)))), (5, 1, (.c (.int .u32 (.lit 0)))), (6, 1, (.c (.int .i64 (.lit 1))))])), none⟩, ⟨(some 26), (.p (.build [(.int .i64 (.lit 0)), (.str ⟨#[]⟩), (.int .i64 (.lit 0)), (.int .u32 (.lit 0)), (.int .u32 (.lit 0)), (.int .u32 (.lit 0)), (.int .i64 (.lit 0))] [(0, 1, (.c (.int .i64 (.lit 26)))), (1, 1, (.c (.str ⟨#[115, 114, 108, 105]⟩))), (2, 1, (.c (.int .i64 (.lit 5)))), (3, 1, (.c (.int .u32 (.lit 19)))), (4, 1, (.c (.int .u32 (.lit 5)))), (5, 1, (.c (.int .u32 (.lit 0)))), (6, 1, (.c (.int .i64 (.lit 1))))])), none⟩, ⟨(some 27), (.p (.build [(.int .i64 (.lit 0)), (.str ⟨#[]⟩), (.int .i64 (.lit 0)), (.int .u32 (.lit 0)), (.int .u32 (.lit 0)), (.int .u32 (.lit 0)), (.int .i64 (.lit 0))] [(0, 1, (.c (.int .i64 (.lit 27)))), (1, 1, (.c (.str ⟨#[115, 114, 97, 105]⟩))), (2, 1, (.c (.int .i64 (.lit 5)))), (3, 1, (.c (.int .u32 (.lit 19)))), (4, 1, (.c (.int .u32 (.lit 5)))), (5, 1, (.c (.int .u32 (.lit 32)))), (6, 1, (.c (.int .i64 (.lit 1))))])), none⟩, ⟨(some 28), (.p (.build [(.int .i64 (.lit 0)), (.str ⟨#[]⟩), (.int .i64 (.lit 0)), (.int .u32 (.lit 0)), (.int .u32 (.lit 0)), (.int .u32 (.lit 0)), (.int .i64 (.lit 0))] [(0, 1, (.c (.int .i64 (.lit 28)))), (1, 1, (.c (.str ⟨#[97, 100, 100]⟩))), (2, 1, (.c (.int .i64 (.lit 6)))), (3, 1, (.c (.int .u32 (.lit 51)))), (4, 1, (.c (.int .u32 (.lit 0)))), (5, 1, (.c (.int .u32 (.lit 0)))), (6, 1, (.c (.int .i64 (.lit 1))))])), none⟩, ⟨(some 29), (.p (.build [(.int .i64 (.lit 0)), (.str ⟨#[]⟩), (.int .i64 (.lit 0)), (.int .u32 (.lit 0)), (.int .u32 (.lit 0)), (.int .u32 (.lit 0)), (.int .i64 (.lit 0))] [(0, 1, (.c (.int .i64 (.lit 29)))), (1, 1, (.c (.str ⟨#[115, 117, 98]⟩))), (2, 1, (.c (.int .i64 (.lit 6)))), (3, 1, (.c (.int .u32 (.lit 51)))), (4, 1, (.c (.int .u32 (.lit 0)))), (5, 1, (.c (.int .u32 (.lit 32)))), (6, 1, (.c (.int .i64 (.lit 1))))])), none⟩, ⟨(some 30), (.p (.build [(.int .i64 (.lit 0)), (.str ⟨#[]⟩), (.int .i64 (.lit 0)), (.int .u32 (.lit 0)), (.int .u32 (.lit 0)), (.int .u32 (.lit 0)), (.int .i64 (.lit 0))] [(0, 1, (.c (.int .i64 (.lit 30)))), (1, 1, (.c (.str ⟨#[115, 108, 108]⟩))), (2, 1, (.c (.int .i64 (.lit 6)))), (3, 1, (.c (.int .u32 (.lit 51)))), (4, 1, (.c (.int .u32 (.lit 1)))), (5, 1, (.c (.int .u32 (.lit 0)))), (6, 1, (.c (.int .i64 (.lit 1))))])), none⟩, ⟨(some 31), (.p (.build [(.int .i64 (.lit 0)), (.str ⟨#[]⟩), (.int .i64 (.lit 0)), (.int .u32 (.lit 0)), (.int .u32 (.lit 0)), (.int .u32 (.lit 0)), (.int .i64 (.lit 0))] [(0, 1, (.c (.int .i64 (.lit 31)))), (1, 1, (.c (.str ⟨#[115, 108, 116]⟩))), (2, 1, (.c (.int .i64 (.lit 6)))), (3, 1, (.c (.int .u32 (.lit 51)))), (4, 1, (.c (.int .u32 (.lit 2)))), (5, 1, (.c (.int .u32 (.lit 0)))), (6, 1, (.c (.int .i64 (.lit 1))))])), none⟩, ⟨(some 32), (.p (.build [(.int .i64 (.lit 0)), (.str ⟨#[]⟩), (.int .i64 (.lit 0)), (.int .u32 (.lit 0)), (.int .u32 (.lit 0)), (.int .u32 (.lit 0)), (.int .i64 (.lit 0))] [(0, 1, (.c (.int .i64 (.lit 32)))), (1, 1, (.c (.str ⟨#[115, 108, 116, 117]⟩))), (2, 1, (.c (.int .i64 (.lit 6)))), (3, 1, (.c (.int .u32 (.lit 51)))), (4, 1, (.c (.int .u32 (.lit 3)))), (5, 1, (.c (.int .u32 (.lit 0)))), (6, 1, (.c (.int .i64 (.lit 1))))])), none⟩, ⟨(some 33), (.p (.build [(.int .i64 (.lit 0)), (.str ⟨#[]⟩), (.int .i64 (.lit 0)), (.int .u32 (.lit 0)), (.int .u32 (.lit 0)), (.int .u32 (.lit 0)), (.int .i64 (.lit 0))] [(0, 1, (.c (.int .i64 (.lit 33)))), (1, 1, (.c (.str ⟨#[120, 111, 114]⟩))), (2, 1, (.c (.int .i64 (.lit 6)))), (3, 1, (.c (.int .u32 (.lit 51)))), (4, 1, (.c (.int .u32 (.lit 4)))), (5, 1, (.c (.int .u32 (.lit 0)))), (6, 1, (.c (.int .i64 (.lit 1))))])), none⟩, ⟨(some 34), (.p (.build [(.int .i64 (.lit 0)), (.str ⟨#[]⟩), (.int .i64 (.lit 0)), (.int .u32 (.lit 0)), (.int .u32 (.lit 0)), (.int .u32 (.lit 0)), (.int .i64 (.lit 0))] [(0, 1, (.c (.int .i64 (.lit 34)))), (1, 1, (.c (.str ⟨#[115, 114, 108]⟩))), (2, 1, (.c (.int .i64 (.lit 6)))), (3, 1, (.c (.int .u32 (.lit 51)))), (4, 1, (.c (.int .u32 (.lit 5)))), (5, 1, (.c (.int .u32 (.lit 0)))), (6, 1, (.c (.int .i64 (.lit 1))))])), none⟩, ⟨(some 35), (.p (.build [(.int .i64 (.lit 0)), (.str ⟨#[]⟩), (.int .i64 (.lit 0)), (.int .u32 (.lit 0)), (.int .u32 (.lit 0)), (.int .u32 (.lit 0)), (.int .i64 (.lit 0))] [(0, 1, (.c (.int .i64 (.lit 35)))), (1, 1, (.c (.str ⟨#[115, 114, 97]⟩))), (2, 1, (.c (.int .i64 (.lit 6)))), (3, 1, (.c (.int .u32 (.lit 51)))), (4, 1, (.c (.int .u32 (.lit 5)))), (5, 1, (.c (.int .u32 (.lit 32)))), (6, 1, (.c (.int .i64 (.lit 1))))])), none⟩, ⟨(some 36), (.p (.build [(.int .i64 (.lit 0)), (.str ⟨#[]⟩), (.int .i64 (.lit 0)), (.int .u32 (.lit 0)), (.int .u32 (.lit 0)), (.int .u32 (.lit 0)), (.int .i64 (.lit 0))] [(0, 1, (.c (.int .i64 (.lit 36)))), (1, 1, (.c (.str ⟨#[111, 114]⟩))), (2, 1, (.c (.int .i64 (.lit 6)))), (3, 1, (.c (.int .u32 (.lit 51)))), (4, 1, (.c (.int .u32 (.lit 6)))), (5, 1, (.c (.int .u32 (.lit 0)))), (6, 1, (.c (.int .i64 (.lit 1))))])), none⟩, ⟨(some 37), (.p (.build [(.int .i64 (.lit 0)), (.str ⟨#[]⟩), (.int .i64 (.lit 0)), (.int .u32 (.lit 0)), (.int .u32 (.lit 0)), (.int .u32 (.lit 0)), (.int .i64 (.lit 0))] [(0, 1, (.c (.int .i64 (.lit 37)))), (1, 1, (.c (.str ⟨#[97, 110, 100]⟩))), (2, 1, (.c (.int .i64 (.lit 6)))), (3, 1, (.c (.int .u32 (.lit 51)))), (4, 1, (.c (.int .u32 (.lit 7)))), (5, 1, (.c (.int .u32 (.lit 0)))), (6, 1, (.c (.int .i64 (.lit 1))))])), none⟩, ⟨(some 38), (.p (.build [(.int .i64 (.lit 0)), (.str ⟨#[]⟩), (.int .i64 (.lit 0)), (.int .u32 (.lit 0)), (.int .u32 (.lit 0)), (.int .u32 (.lit 0)), (.int .i64 (.lit 0))] [(0, 1, (.c (.int .i64 (.lit 38)))), (1, 1, (.c (.str ⟨#[102, 101, 110, 99, 101]⟩))), (2, 1, (.c (.int .i64 (.lit 7)))), (3, 1, (.c (.int .u32 (.lit 15)))), (4, 1, (.c (.int .u32 (.lit 0)))), (5, 1, (.c (.int .u32 (.lit 0)))), (6, 1, (.c (.int .i64 (.lit 7))))])), none⟩, ⟨(some 39), (.p (.build [(.int .i64 (.lit 0)), (.str ⟨#[]⟩), (.int .i64 (.lit 0)), (.int .u32 (.lit 0)), (.int .u32 (.lit 0)), (.int .u32 (.lit 0)), (.int .i64 (.lit 0))] [(0, 1, (.c (.int .i64 (.lit 39)))), (1, 1, (.c (.str ⟨#[102, 101, 110, 99, 101, 46, 105]⟩))), (2, 1, (.c (.int .i64 (.lit 8)))), (3, 1, (.c (.int .u32 (.lit 4111)))), (4, 1, (.c (.int .u32 (.lit 0)))), (5, 1, (.c (.int .u32 (.lit 0)))), (6, 1, (.c (.int .i64 (.lit 7))))])), none⟩, ⟨(some 40), (.p (.build [(.int .i64 (.lit 0)), (.str ⟨#[]⟩), (.int .i64 (.lit 0)), (.int .u32 (.lit 0)), (.int .u32 (.lit 0)), (.int .u32 (.lit 0)), (.int .i64 (.lit 0))] [(0, 1, (.c (.int .i64 (.lit 40)))), (1, 1, (.c (.str ⟨#[101, 99, 97, 108, 108]⟩))), (2, 1, (.c (.int .i64 (.lit 8)))), (3, 1, (.c (.int .u32 (.lit 115)))), (4, 1, (.c (.int .u32 (.lit 0)))), (5, 1, (.c (.int .u32 (.lit 0)))), (6, 1, (.c (.int .i64 (.lit 7))))])), none⟩, ⟨(some 41), (.p (.build [(.int .i64 (.lit 0)), (.str ⟨#[]⟩), (.int .i64 (.lit 0)), (.int .u32 (.lit 0)), (.int .u32 (.lit 0)), (.int .u32 (.lit 0)), (.int .i64 (.lit 0))] [(0, 1, (.c (.int .i64 (.lit 41)))), (1, 1, (.c (.str ⟨#[101, 98, 114, 101, 97, 107]⟩))), (2, 1, (.c (.int .i64 (.lit 8)))), (3, 1, (.c (.int .u32 (.lit 1048691)))), (4, 1, (.c (.int .u32 (.lit 0)))), (5, 1, (.c (.int .u32 (.lit 0)))), (6, 1, (.c (.int .i64 (.lit 7))))])), none⟩, ⟨(some 42), (.p (.build [(.int .i64 (.lit 0)), (.str ⟨#[]⟩), (.int .i64 (.lit 0)), (.int .u32 (.lit 0)), (.int .u32 (.lit 0)), (.int .u32 (.lit 0)), (.int .i64 (.lit 0))] [(0, 1, (.c (.int .i64 (.lit 42)))), (1, 1, (.c (.str ⟨#[109, 114, 101, 116]⟩))), (2, 1, (.c (.int .i64 (.lit 8)))), (3, 1, (.c (.int .u32 (.lit 807403635)))), (4, 1, (.c (.int .u32 (.lit 0)))), (5, 1, (.c (.int .u32 (.lit 0)))), (6, 1, (.c (.int .i64 (.lit 7))))])), none⟩, ⟨(some 43), (.p (.build [(.int .i64 (.lit 0)), (.str ⟨#[]⟩), (.int .i64 (.lit 0)), (.int .u32 (.lit 0)), (.int .u32 (.lit 0)), (.int .u32 (.lit 0)), (.int .i64 (.lit 0))] [(0, 1, (.c (.int .i64 (.lit 43)))), (1, 1, (.c (.str ⟨#[119, 102, 105]⟩))), (2, 1, (.c (.int .i64 (.lit 8)))), (3, 1, (.c (.int .u32 (.lit 273678451)))), (4, 1, (.c (.int .u32 (.lit 0)))), (5, 1, (.c (.int .u32 (.lit 0)))), (6, 1, (.c (.int .i64 (.lit 7))))])), none⟩, ⟨(some 44), (.p (.build [(.int .i64 (.lit 0)), (.str ⟨#[]⟩), (.int .i64 (.lit 0)), (.int .u32 (.lit 0)), (.int .u32 (.lit 0)), (.int .u32 (.lit 0)), (.int .i64 (.lit 0))] [(0, 1, (.c (.int .i64 (.lit 44)))), (1, 1, (.c (.str ⟨#[115, 102, 101, 110, 99, 101, 46, 118, 109, 97]⟩))), (2, 1, (.c (.int .i64 (.lit 9)))), (3, 1, (.c (.int .u32 (.lit 115)))), (4, 1, (.c (.int .u32 (.lit 0)))), (5, 1, (.c (.int .u32 (.lit 9)))), (6, 1, (.c (.int .i64 (.lit 7))))])), none⟩, ⟨(some 45), (.p (.build [(.int .i64 (.lit 0)), (.str ⟨#[]⟩), (.int .i64 (.lit 0)), (.int .u32 (.lit 0)), (.int .u32 (.lit 0)), (.int .u32 (.lit 0)), (.int .i64 (.lit 0))] [(0, 1, (.c (.int .i64 (.lit 45)))), (1, 1, (.c (.str ⟨#[99, 115, 114, 114, 119]⟩))), (2, 1, (.c (.int .i64 (.lit 10)))), (3, 1, (.c (.int .u32 (.lit 115)))), (4, 1, (.c (.int .u32 (.lit 1)))), (5, 1, (.c (.int .u32 (.lit 0)))), (6, 1, (.c (.int .i64 (.lit 7))))])), none⟩, ⟨(some 46), (.p (.build [(.int .i64 (.lit 0)), (.str ⟨#[]⟩), (.int .i64 (.lit 0)), (.int .u32 (.lit 0)), (.int .u32 (.lit 0)), (.int .u32 (.lit 0)), (.int .i64 (.lit 0))] [(0, 1, (.c (.int .i64 (.lit 46)))), (1, 1, (.c (.str ⟨#[99, 115, 114, 114, 115]⟩))), (2, 1, (.c (.int .i64 (.lit 10)))), (3, 1, (.c (.int .u32 (.lit 115)))), (4, 1, (.c (.int .u32 (.lit 2)))), (5, 1, (.c (.int .u32 (.lit 0)))), (6, 1, (.c (.int .i64 (.lit 7))))])), none⟩, ⟨(some 47), (.p (.build [(.int .i64 (.lit 0)), (.str ⟨#[]⟩), (.int .i64 (.lit 0)), (.int .u32 (.lit 0)), (.int .u32 (.lit 0)), (.int .u32 (.lit 0)), (.int .i64 (.lit 0))] [(0, 1, (.c (.int .i64 (.lit 47)))), (1, 1, (.c (.str ⟨#[99, 115, 114, 114, 99]⟩))), (2, 1, (.c (.int .i64 (.lit 10)))), (3, 1, (.c (.int .u32 (.lit 115)))), (4, 1, (.c (.int .u32 (.lit 3)))), (5, 1, (.c (.int .u32 (.lit 0)))), (6, 1, (.c (.int .i64 (.lit 7))))])), none⟩, ⟨(some 48), (.p (.build [(.int .i64 (.lit 0)), (.str ⟨#[]⟩), (.int .i64 (.lit 0)), (.int .u32 (.lit 0)), (.int .u32 (.lit 0)), (.int .u32 (.lit 0)), (.int .i64 (.lit 0))] [(0, 1, (.c (.int .i64 (.lit 48)))), (1, 1, (.c (.str ⟨#[99, 115, 114, 114, 119, 105]⟩))), (2, 1, (.c (.int .i64 (.lit 11)))), (3, 1, (.c (.int .u32 (.lit 115)))), (4, 1, (.c (.int .u32 (.lit 5)))), (5, 1, (.c (.int .u32 (.lit 0)))), (6, 1, (.c (.int .i64 (.lit 7))))])), none⟩, ⟨(some 49), (.p (.build [(.int .i64 (.lit 0)), (.str ⟨#[]⟩), (.int .i64 (.lit 0)), (.int .u32 (.lit 0)), (.int .u32 (.lit 0)), (.int .u32 (.lit 0)), (.int .i64 (.lit 0))] [(0, 1, (.c (.int .i64 (.lit 49)))), (1, 1, (.c (.str ⟨#[99, 115, 114, 114, 115, 105]⟩))), (2, 1, (.c (.int .i64 (.lit 11)))), (3, 1, (.c (.int .u32 (.lit 115)))), (4, 1, (.c (.int .u32 (.lit 6)))), (5, 1, (.c (.int .u32 (.lit 0)))), (6, 1, (.c (.int .i64 (.lit 7))))])), none⟩, ⟨(some 50), (.p (.build [(.int .i64 (.lit 0)), (.str ⟨#[]⟩), (.int .i64 (.lit 0)), (.int .u32 (.lit 0)), (.int .u32 (.lit 0)), (.int .u32 (.lit 0)), (.int .i64 (.lit 0))] [(0, 1, (.c (.int .i64 (.lit 50)))), (1, 1, (.c (.str ⟨#[99, 115, 114, 114, 99, 105]⟩))), (2, 1, (.c (.int .i64 (.lit 11)))), (3, 1, (.c (.int .u32 (.lit 115)))), (4, 1, (.c (.int .u32 (.lit 7)))), (5, 1, (.c (.int .u32 (.lit 0)))), (6, 1, (.c (.int .i64 (.lit 7))))])), none⟩, ⟨(some 51), (.p (.build [(.int .i64 (.lit 0)), (.str ⟨#[]⟩), (.int .i64 (.lit 0)), (.int .u32 (.lit 0)), (.int .u32 (.lit 0)), (.int .u32 (.lit 0)), (.int .i64 (.lit 0))] [(0, 1, (.c (.int .i64 (.lit 51)))), (1, 1, (.c (.str ⟨#[109, 117, 108]⟩))), (2, 1, (.c (.int .i64 (.lit 6)))), (3, 1, (.c (.int .u32 (.lit 51)))), (4, 1, (.c (.int .u32 (.lit 0)))), (5, 1, (.c (.int .u32 (.lit 1)))), (6, 1, (.c (.int .i64 (.lit 1))))])), none⟩, ⟨(some 52), (.p (.build [(.int .i64 (.lit 0)), (.str ⟨#[]⟩), (.int .i64 (.lit 0)), (.int .u32 (.lit 0)), (.int .u32 (.lit 0)), (.int .u32 (.lit 0)), (.int .i64 (.lit 0))] [(0, 1, (.c (.int .i64 (.lit 52)))), (1, 1, (.c (.str ⟨#[109, 117, 108, 104]⟩))), (2, 1, (.c (.int .i64 (.lit 6)))), (3, 1, (.c (.int .u32 (.lit 51)))), (4, 1, (.c (.int .u32 (.lit 1)))), (5, 1, (.c (.int .u32 (.lit 1)))), (6, 1, (.c (.int .i64 (.lit 1))))])), none⟩, ⟨(some 53), (.p (.build [(.int .i64 (.lit 0)), (.str ⟨#[]⟩), (.int .i64 (.lit 0)), (.int .u32 (.lit 0)), (.int .u32 (.lit 0)), (.int .u32 (.lit 0)), (.int .i64 (.lit 0))] [(0, 1, (.c (.int .i64 (.lit 53)))), (1, 1, (.c (.str ⟨#[109, 117, 108, 104, 115, 117]⟩))), (2, 1, (.c (.int .i64 (.lit 6)))), (3, 1, (.c (.int .u32 (.lit 51)))), (4, 1, (.c (.int .u32 (.lit 2)))), (5, 1, (.c (.int .u32 (.lit 1)))), (6, 1, (.c (.int .i64 (.lit 1))))])), none⟩, ⟨(some 54), (.p (.build [(.int .i64 (.lit 0)), (.str ⟨#[]⟩), (.int .i64 (.lit 0)), (.int .u32 (.lit 0)), (.int .u32 (.lit 0)), (.int .u32 (.lit 0)), (.int .i64 (.lit 0))] [(0, 1, (.c (.int .i64 (.lit 54)))), (1, 1, (.c (.str ⟨#[109, 117, 108, 104, 117]⟩))), (2, 1, (.c (.int .i64 (.lit 6)))), (3, 1, (.c (.int .u32 (.lit 51)))), (4, 1, (.c (.int .u32 (.lit 3)))), (5, 1, (.c (.int .u32 (.lit 1)))), (6, 1, (.c (.int .i64 (.lit 1))))])), none⟩, ⟨(some 55), (.p (.build [(.int .i64 (.lit 0)), (.str ⟨#[]⟩), (.int .i64 (.lit 0)), (.int .u32 (.lit 0)), (.int .u32 (.lit 0)), (.int .u32 (.lit 0)), (.int .i64 (.lit 0))] [(0, 1, (.c (.int .i64 (.lit 55)))), (1, 1, (.c (.str ⟨#[100, 105, 118]⟩))), (2, 1, (.c (.int .i64 (.lit 6)))), (3, 1, (.c (.int .u32 (.lit 51)))), (4, 1, (.c (.int .u32 (.lit 4)))), (5, 1, (.c (.int .u32 (.lit 1)))), (6, 1, (.c (.int .i64 (.lit 1))))])), none⟩, ⟨(some 56), (.p (.build [(.int .i64 (.lit 0)), (.str ⟨#[]⟩), (.int .i64 (.lit 0)), (.int .u32 (.lit 0)), (.int .u32 (.lit 0)), (.int .u32 (.lit 0)), (.int .i64 (.lit 0))] [(0, 1, (.c (.int .i64 (.lit 56)))), (1, 1, (.c (.str ⟨#[100, 105, 118, 117]⟩))), (2, 1, (.c (.int .i64 (.lit 6)))), (3, 1, (.c (.int .u32 (.lit 51)))), (4, 1, (.c (.int .u32 (.lit 5)))), (5, 1, (.c (.int .u32 (.lit 1)))), (6, 1, (.c (.int .i64 (.lit 1))))])), none⟩, ⟨(some 57), (.p (.build [(.int .i64 (.lit 0)), (.str ⟨#[]⟩), (.int .i64 (.lit 0)), (.int .u32 (.lit 0)), (.int .u32 (.lit 0)), (.int .u32 (.lit 0)), (.int .i64 (.lit 0))] [(0, 1, (.c (.int .i64 (.lit 57)))), (1, 1, (.c (.str ⟨#[114, 101, 109]⟩))), (2, 1, (.c (.int .i64 (.lit 6)))), (3, 1, (.c (.int .u32 (.lit 51)))), (4, 1, (.c (.int .u32 (.lit 6)))), (5, 1, (.c (.int .u32 (.lit 1)))), (6, 1, (.c (.int .i64 (.lit 1))))])), none⟩, ⟨(some 58), (.p (.build [(.int .i64 (.lit 0)), (.str ⟨#[]⟩), (.int .i64 (.lit 0)), (.int .u32 (.lit 0)), (.int .u32 (.lit 0)), (.int .u32 (.lit 0)), (.int .i64 (.lit 0))] [(0, 1, (.c (.int .i64 (.lit 58)))), (1, 1, (.c (.str ⟨#[114, 101, 109, 117]⟩))), (2, 1, (.c (.int .i64 (.lit 6)))), (3, 1, (.c (.int .u32 (.lit 51)))), (4, 1, (.c (.int .u32 (.lit 7)))), (5, 1, (.c (.int .u32 (.lit 1)))), (6, 1, (.c (.int .i64 (.lit 1))))])), none⟩, ⟨(some 59), (.p (.build [(.int .i64 (.lit 0)), (.str ⟨#[]⟩), (.int .i64 (.lit 0)), (.int .u32 (.lit 0)), (.int .u32 (.lit 0)), (.int .u32 (.lit 0)), (.int .i64 (.lit 0))] [(0, 1, (.c (.int .i64 (.lit 59)))), (1, 1, (.c (.str ⟨#[108, 114, 46, 119]⟩))), (2, 1, (.c (.int .i64 (.lit 12)))), (3, 1, (.c (.int .u32 (.lit 47)))), (4, 1, (.c (.int .u32 (.lit 2)))), (5, 1, (.c (.int .u32 (.lit 2)))), (6, 1, (.c (.int .i64 (.lit 4))))])), none⟩, ⟨(some 60), (.p (.build [(.int .i64 (.lit 0)), (.str ⟨#[]⟩), (.int .i64 (.lit 0)), (.int .u32 (.lit 0)), (.int .u32 (.lit 0)), (.int .u32 (.lit 0)), (.int .i64 (.lit 0))] [(0, 1, (.c (.int .i64 (.lit 60)))), (1, 1, (.c (.str ⟨#[115, 99, 46, 119]⟩))), (2, 1, (.c (.int .i64 (.lit 13)))), (3, 1, (.c (.int .u32 (.lit 47)))), (4, 1, (.c (.int .u32 (.lit 2)))), (5, 1, (.c (.int .u32 (.lit 3)))), (6, 1, (.c (.int .i64 (.lit 6))))])), none⟩, ⟨(some 61), (.p (.build [(.int .i64 (.lit 0)), (.str ⟨#[]⟩), (.int .i64 (.lit 0)), (.int .u32 (.lit 0)), (.int .u32 (.lit 0)), (.int .u32 (.lit 0)), (.int .i64 (.lit 0))] [(0, 1, (.c (.int .i64 (.lit 61)))), (1, 1, (.c (.str ⟨#[97, 109, 111, 115, 119, 97, 112, 46, 119]⟩))), (2, 1, (.c (.int .i64 (.lit 13)))), (3, 1, (.c (.int .u32 (.lit 47)))), (4, 1, (.c (.int .u32 (.lit 2)))), (5, 1, (.c (.int .u32 (.lit 1)))), (6, 1, (.c (.int .i64 (.lit 6))))])), none⟩, ⟨(some 62), (.p (.build [(.int .i64 (.lit 0)), (.str ⟨#[]⟩), (.int .i64 (.lit 0)), (.int .u32 (.lit 0)), (.int .u32 (.lit 0)), (.int .u32 (.lit 0)), (.int .i64 (.lit 0))] [(0, 1, (.c (.int .i64 (.lit 62)))), (1, 1, (.c (.str ⟨#[97, 109, 111, 97, 100, 100, 46, 119]⟩))), (2, 1, (.c (.int .i64 (.lit 13)))), (3, 1, (.c (.int .u32 (.lit 47)))), (4, 1, (.c (.int .u32 (.lit 2)))), (5, 1, (.c (.int .u32 (.lit 0)))), (6, 1, (.c (.int .i64 (.lit 6))))])), none⟩, ⟨(some 63), (.p (.build [(.int .i64 (.lit 0)), (.str ⟨#[]⟩), (.int .i64 (.lit 0)), (.int .u32 (.lit 0)), (.int .u32 (.lit 0)), (.int .u32 (.lit 0)), (.int .i64 (.lit 0))] [(0, 1, (.c (.int .i64 (.lit 63)))), (1, 1, (.c (.str ⟨#[97, 109, 111, 120, 111, 114, 46, 119]⟩))), (2, 1, (.c (.int .i64 (.lit 13)))), (3, 1, (.c (.int .u32 (.lit 47)))), (4, 1, (.c (.int .u32 (.lit 2)))), (5, 1, (.c (.int .u32 (.lit 4)))), (6, 1, (.c (.int .i64 (.lit 6))))])), none⟩, ⟨(some 64), (.p (.build [(.int .i64 (.lit 0)), (.str ⟨#[]⟩), (.int .i64 (.lit 0)), (.int .u32 (.lit 0)), (.int .u32 (.lit 0)), (.int .u32 (.lit 0)), (.int .i64 (.lit 0))] [(0, 1, (.c (.int .i64 (.lit 64)))), (1, 1, (.c (.str ⟨#[97, 109, 111, 97, 110, 100, 46, 119]⟩))), (2, 1, (.c (.int .i64 (.lit 13)))), (3, 1, (.c (.int .u32 (.lit 47)))), (4, 1, (.c (.int .u32 (.lit 2)))), (5, 1, (.c (.int .u32 (.lit 12)))), (6, 1, (.c (.int .i64 (.lit 6))))])), none⟩, ⟨(some 65), (.p (.build [(.int .i64 (.lit 0)), (.str ⟨#[]⟩), (.int .i64 (.lit 0)), (.int .u32 (.lit 0)), (.int .u32 (.lit 0)), (.int .u32 (.lit 0)), (.int .i64 (.lit 0))] [(0, 1, (.c (.int .i64 (.lit 65)))), (1, 1, (.c (.str ⟨#[97, 109, 111, 111, 114, 46, 119]⟩))), (2, 1, (.c (.int .i64 (.lit 13)))), (3, 1, (.c (.int .u32 (.lit 47)))), (4, 1, (.c (.int .u32 (.lit 2)))), (5, 1, (.c (.int .u32 (.lit 8)))), (6, 1, (.c (.int .i64 (.lit 6))))])), none⟩, ⟨(some 66), (.p (.build [(.int .i64 (.lit 0)), (.str ⟨#[]⟩), (.int .i64 (.lit 0)), (.int .u32 (.lit 0)), (.int .u32 (.lit 0)), (.int .u32 (.lit 0)), (.int .i64 (.lit 0))] [(0, 1, (.c (.int .i64 (.lit 66)))), (1, 1, (.c (.str ⟨#[97, 109, 111, 109, 105, 110, 46, 119]⟩))), (2, 1, (.c (.int .i64 (.lit 13)))), (3, 1, (.c (.int .u32 (.lit 47)))), (4, 1, (.c (.int .u32 (.lit 2)))), (5, 1, (.c (.int .u32 (.lit 16)))), (6, 1, (.c (.int .i64 (.lit 6))))])), none⟩, ⟨(some 67), (.p (.build [(.int .i64 (.lit 0)), (.str ⟨#[]⟩), (.int .i64 (.lit 0)), (.int .u32 (.lit 0)), (.int .u32 (.lit 0)), (.int .u32 (.lit 0)), (.int .i64 (.lit 0))] [(0, 1, (.c (.int .i64 (.lit 67)))), (1, 1, (.c (.str ⟨#[97, 109, 111, 109, 97, 120, 46, 119]⟩))), (2, 1, (.c (.int .i64 (.lit 13)))), (3, 1, (.c (.int .u32 (.lit 47)))), (4, 1, (.c (.int .u32 (.lit 2)))), (5, 1, (.c (.int .u32 (.lit 20)))), (6, 1, (.c (.int .i64 (.lit 6))))])), none⟩, ⟨(some 68), (.p (.build [(.int .i64 (.lit 0)), (.str ⟨#[]⟩), (.int .i64 (.lit 0)), (.int .u32 (.lit 0)), (.int .u32 (.lit 0)), (.int .u32 (.lit 0)), (.int .i64 (.lit 0))] [(0, 1, (.c (.int .i64 (.lit 68)))), (1, 1, (.c (.str ⟨#[97, 109, 111, 109, 105, 110, 117, 46, 119]⟩))), (2, 1, (.c (.int .i64 (.lit 13)))), (3, 1, (.c (.int .u32 (.lit 47)))), (4, 1, (.c (.int .u32 (.lit 2)))), (5, 1, (.c (.int .u32 (.lit 24)))), (6, 1, (.c (.int .i64 (.lit 6))))])), none⟩, ⟨(some 69), (.p (.build [(.int .i64 (.lit 0)), (.str ⟨#[]⟩), (.int .i64 (.lit 0)), (.int .u32 (.lit 0)), (.int .u32 (.lit 0)), (.int .u32 (.lit 0)), (.int .i64 (.lit 0))] [(0, 1, (.c (.int .i64 (.lit 69)))), (1, 1, (.c (.str ⟨#[97, 109, 111, 109, 97, 120, 117, 46, 119]⟩))), (2, 1, (.c (.int .i64 (.lit 13)))), (3, 1, (.c (.int .u32 (.lit 47)))), (4, 1, (.c (.int .u32 (.lit 2)))), (5, 1, (.c (.int .u32 (.lit 28)))), (6, 1, (.c (.int .i64 (.lit 6))))])), none⟩, ⟨(some 70), (.mkArr 7 69 [(.int .i64 (.lit 0)), (.str ⟨#[]⟩), (.int .i64 (.lit 0)), (.int .u32 (.lit 0)), (.int .u32 (.lit 0)), (.int .u32 (.lit 0)), (.int .i64 (.lit 0))] [(0, 7, (.t 1)), (7, 7, (.t 2)), (14, 7, (.t 3)), (21, 7, (.t 4)), (28, 7, (.t 5)), (35, 7, (.t 6)), (42, 7, (.t 7)), (49, 7, (.t 8)), (56, 7, (.t 9)), (63, 7, (.t 10)), (70, 7, (.t 11)), (77, 7, (.t 12)), (84, 7, (.t 13)), (91, 7, (.t 14)), (98, 7, (.t 15)), (105, 7, (.t 16)), (112, 7, (.t 17)), (119, 7, (.t 18)), (126, 7, (.t 19)), (133, 7, (.t 20)), (140, 7, (.t 21)), (147, 7, (.t 22)), (154, 7, (.t 23)), (161, 7, (.t 24)), (168, 7, (.t 25)), (175, 7, (.t 26)), (182, 7, (.t 27)), (189, 7, (.t 28)), (196, 7, (.t 29)), (203, 7, (.t 30)), (210, 7, (.t 31)), (217, 7, (.t 32)), (224, 7, (.t 33)), (231, 7, (.t 34)), (238, 7, (.t 35)), (245, 7, (.t 36)), (252, 7, (.t 37)), (259, 7, (.t 38)), (266, 7, (.t 39)), (273, 7, (.t 40)), (280, 7, (.t 41)), (287, 7, (.t 42)), (294, 7, (.t 43)), (301, 7, (.t 44)), (308, 7, (.t 45)), (315, 7, (.t 46)), (322, 7, (.t 47)), (329, 7, (.t 48)), (336, 7, (.t 49)), (343, 7, (.t 50)), (350, 7, (.t 51)), (357, 7, (.t 52)), (364, 7, (.t 53)), (371, 7, (.t 54)), (378, 7, (.t 55)), (385, 7, (.t 56)), (392, 7, (.t 57)), (399, 7, (.t 58)), (406, 7, (.t 59)), (413, 7, (.t 60)), (420, 7, (.t 61)), (427, 7, (.t 62)), (434, 7, (.t 63)), (441, 7, (.t 64)), (448, 7, (.t 65)), (455, 7, (.t 66)), (462, 7, (.t 67)), (469, 7, (.t 68)), (476, 7, (.t 69))]), none⟩, ⟨(some 0), (.p (.mv (.t 70))), none⟩])
 .ret))⟩
/- (corral/isa.row).fits -/
def af82 : AFunc := ⟨121, [.t 4],
 (.seq (.reg [⟨(some 2), (.box 7 (.t 0)), none⟩, ⟨(some 4), (.p (.mv (.c (.bool (.lit false))))), none⟩])
 (.seq (.reg [⟨(some 6), (.p (.mv (.t 1))), none⟩, ⟨(some 7), (.call (.f 104) [(.t 6)]), none⟩, ⟨(some 5), (.newC [(.int .u32 (.lit 0)), (.int .u32 (.lit 0)), (.int .u32 (.lit 0)), (.int .u32 (.lit 0)), (.int .u32 (.lit 0)), (.int .u32 (.lit 0))]), none⟩, ⟨none, (.store 6 (.t 5) (.t 7)), none⟩])
 (.seq (.seq (.reg [⟨(some 8), (.p (.fieldAddr 2 (.t 2))), none⟩, ⟨(some 9), (.load false 1 (.t 8)), none⟩, ⟨(some 10), (.p (.bin 0 .eql (.t 9) (.c (.int .i64 (.lit 8))))), none⟩])
 (.cond (.t 10) (.seq (.reg [⟨(some 11), (.p (.mv (.t 1))), none⟩, ⟨(some 12), (.p (.fieldAddr 3 (.t 2))), none⟩, ⟨(some 13), (.load false 1 (.t 12)), none⟩, ⟨(some 14), (.p (.bin 0 .eql (.t 11) (.t 13))), none⟩, ⟨(some 4), (.p (.mv (.t 14))), none⟩])
 .ret)
 .skip))
 (.seq (.seq (.reg [⟨(some 15), (.p (.fieldAddr 0 (.t 5))), none⟩, ⟨(some 16), (.load false 1 (.t 15)), none⟩, ⟨(some 17), (.p (.fieldAddr 3 (.t 2))), none⟩, ⟨(some 18), (.load false 1 (.t 17)), none⟩, ⟨(some 19), (.p (.bin 0 .neq (.t 16) (.t 18))), none⟩])
 (.cond (.t 19) (.seq (.reg [⟨(some 4), (.p (.mv (.c (.bool (.lit false))))), none⟩])
 .ret)
 .skip))
 (.seq (.seq (.reg [⟨(some 20), (.p (.fieldAddr 2 (.t 2))), none⟩, ⟨(some 21), (.load false 1 (.t 20)), none⟩])
 (.block 0 (.seq (.seq (.reg [⟨(some 23), (.p (.bin 0 .eql (.t 21) (.c (.int .i64 (.lit 0))))), none⟩, ⟨(some 22), (.p (.mv (.t 23))), none⟩])
 (.cond (.t 22) .skip
 (.reg [⟨(some 24), (.p (.bin 0 .eql (.t 21) (.c (.int .i64 (.lit 1))))), none⟩, ⟨(some 22), (.p (.mv (.t 24))), none⟩])))
 (.cond (.t 22) (.seq (.reg [⟨(some 4), (.p (.mv (.c (.bool (.lit true))))), none⟩])
 .ret)
 (.seq (.seq (.reg [⟨(some 26), (.p (.bin 0 .eql (.t 21) (.c (.int .i64 (.lit 5))))), none⟩, ⟨(some 25), (.p (.mv (.t 26))), none⟩])
 (.cond (.t 25) .skip
 (.reg [⟨(some 27), (.p (.bin 0 .eql (.t 21) (.c (.int .i64 (.lit 6))))), none⟩, ⟨(some 25), (.p (.mv (.t 27))), none⟩])))
 (.cond (.t 25) (.seq (.reg [⟨(some 28), (.p (.fieldAddr 2 (.t 5))), none⟩, ⟨(some 29), (.load false 1 (.t 28)), none⟩, ⟨(some 30), (.p (.fieldAddr 4 (.t 2))), none⟩, ⟨(some 31), (.load false 1 (.t 30)), none⟩, ⟨(some 32), (.p (.bin 0 .eql (.t 29) (.t 31))), none⟩, ⟨(some 33), (.p (.mv (.t 32))), none⟩, ⟨(some 34), (.p (.fieldAddr 5 (.t 5))), (some (33, true))⟩, ⟨(some 35), (.load false 1 (.t 34)), (some (33, true))⟩, ⟨(some 36), (.p (.fieldAddr 5 (.t 2))), (some (33, true))⟩, ⟨(some 37), (.load false 1 (.t 36)), (some (33, true))⟩, ⟨(some 38), (.p (.bin 0 .eql (.t 35) (.t 37))), (some (33, true))⟩, ⟨(some 39), (.pick (.t 33) (.t 38) (.c (.bool (.lit false)))), none⟩, ⟨(some 4), (.p (.mv (.t 39))), none⟩])
 .ret)
 (.seq (.reg [⟨(some 41), (.p (.bin 0 .eql (.t 21) (.c (.int .i64 (.lit 7))))), none⟩, ⟨(some 40), (.p (.mv (.t 41))), none⟩])
 (.cond (.t 40) (.seq (.reg [⟨(some 42), (.p (.fieldAddr 2 (.t 5))), none⟩, ⟨(some 43), (.load false 1 (.t 42)), none⟩, ⟨(some 44), (.p (.fieldAddr 4 (.t 2))), none⟩, ⟨(some 45), (.load false 1 (.t 44)), none⟩, ⟨(some 46), (.p (.bin 0 .eql (.t 43) (.t 45))), none⟩, ⟨(some 47), (.p (.mv (.t 46))), none⟩, ⟨(some 48), (.p (.fieldAddr 1 (.t 5))), (some (47, true))⟩, ⟨(some 49), (.load false 1 (.t 48)), (some (47, true))⟩, ⟨(some 50), (.p (.bin 0 .eql (.t 49) (.c (.int .u32 (.lit 0))))), (some (47, true))⟩, ⟨(some 51), (.pick (.t 47) (.t 50) (.c (.bool (.lit false)))), none⟩, ⟨(some 52), (.p (.mv (.t 51))), none⟩, ⟨(some 53), (.p (.fieldAddr 3 (.t 5))), (some (52, true))⟩, ⟨(some 54), (.load false 1 (.t 53)), (some (52, true))⟩, ⟨(some 55), (.p (.bin 0 .eql (.t 54) (.c (.int .u32 (.lit 0))))), (some (52, true))⟩, ⟨(some 56), (.pick (.t 52) (.t 55) (.c (.bool (.lit false)))), none⟩, ⟨(some 57), (.p (.mv (.t 56))), none⟩, ⟨(some 58), (.p (.mv (.t 1))), (some (57, true))⟩, ⟨(some 59), (.call (.f 73) [(.t 58), (.c (.int .i64 (.lit 28))), (.c (.int .i64 (.lit 4)))]), (some (57, true))⟩, ⟨(some 60), (.p (.bin 0 .eql (.t 59) (.c (.int .u32 (.lit 0))))), (some (57, true))⟩, ⟨(some 61), (.pick (.t 57) (.t 60) (.c (.bool (.lit false)))), none⟩, ⟨(some 4), (.p (.mv (.t 61))), none⟩])
 .ret)
 (.seq (.reg [⟨(some 63), (.p (.bin 0 .eql (.t 21) (.c (.int .i64 (.lit 9))))), none⟩, ⟨(some 62), (.p (.mv (.t 63))), none⟩])
 (.cond (.t 62) (.seq (.reg [⟨(some 64), (.p (.fieldAddr 2 (.t 5))), none⟩, ⟨(some 65), (.load false 1 (.t 64)), none⟩, ⟨(some 66), (.p (.fieldAddr 4 (.t 2))), none⟩, ⟨(some 67), (.load false 1 (.t 66)), none⟩, ⟨(some 68), (.p (.bin 0 .eql (.t 65) (.t 67))), none⟩, ⟨(some 69), (.p (.mv (.t 68))), none⟩, ⟨(some 70), (.p (.fieldAddr 5 (.t 5))), (some (69, true))⟩, ⟨(some 71), (.load false 1 (.t 70)), (some (69, true))⟩, ⟨(some 72), (.p (.fieldAddr 5 (.t 2))), (some (69, true))⟩, ⟨(some 73), (.load false 1 (.t 72)), (some (69, true))⟩, ⟨(some 74), (.p (.bin 0 .eql (.t 71) (.t 73))), (some (69, true))⟩, ⟨(some 75), (.pick (.t 69) (.t 74) (.c (.bool (.lit false)))), none⟩, ⟨(some 76), (.p (.mv (.t 75))), none⟩, ⟨(some 77), (.p (.fieldAddr 1 (.t 5))), (some (76, true))⟩, ⟨(some 78), (.load false 1 (.t 77)), (some (76, true))⟩, ⟨(some 79), (.p (.bin 0 .eql (.t 78) (.c (.int .u32 (.lit 0))))), (some (76, true))⟩, ⟨(some 80), (.pick (.t 76) (.t 79) (.c (.bool (.lit false)))), none⟩, ⟨(some 4), (.p (.mv (.t 80))), none⟩])
 .ret)
 (.seq (.reg [⟨(some 82), (.p (.bin 0 .eql (.t 21) (.c (.int .i64 (.lit 12))))), none⟩, ⟨(some 81), (.p (.mv (.t 82))), none⟩])
 (.cond (.t 81) (.seq (.reg [⟨(some 83), (.p (.fieldAddr 2 (.t 5))), none⟩, ⟨(some 84), (.load false 1 (.t 83)), none⟩, ⟨(some 85), (.p (.fieldAddr 4 (.t 2))), none⟩, ⟨(some 86), (.load false 1 (.t 85)), none⟩, ⟨(some 87), (.p (.bin 0 .eql (.t 84) (.t 86))), none⟩, ⟨(some 88), (.p (.mv (.t 87))), none⟩, ⟨(some 89), (.p (.fieldAddr 5 (.t 5))), (some (88, true))⟩, ⟨(some 90), (.load false 1 (.t 89)), (some (88, true))⟩, ⟨(some 91), (.p (.bin 0 .shr (.t 90) (.c (.int .u64 (.lit 2))))), (some (88, true))⟩, ⟨(some 92), (.p (.fieldAddr 5 (.t 2))), (some (88, true))⟩, ⟨(some 93), (.load false 1 (.t 92)), (some (88, true))⟩, ⟨(some 94), (.p (.bin 0 .eql (.t 91) (.t 93))), (some (88, true))⟩, ⟨(some 95), (.pick (.t 88) (.t 94) (.c (.bool (.lit false)))), none⟩, ⟨(some 96), (.p (.mv (.t 95))), none⟩, ⟨(some 97), (.p (.fieldAddr 4 (.t 5))), (some (96, true))⟩, ⟨(some 98), (.load false 1 (.t 97)), (some (96, true))⟩, ⟨(some 99), (.p (.bin 0 .eql (.t 98) (.c (.int .u32 (.lit 0))))), (some (96, true))⟩, ⟨(some 100), (.pick (.t 96) (.t 99) (.c (.bool (.lit false)))), none⟩, ⟨(some 4), (.p (.mv (.t 100))), none⟩])
 .ret)
 (.seq (.reg [⟨(some 102), (.p (.bin 0 .eql (.t 21) (.c (.int .i64 (.lit 13))))), none⟩, ⟨(some 101), (.p (.mv (.t 102))), none⟩])
 (.cond (.t 101) (.seq (.reg [⟨(some 103), (.p (.fieldAddr 2 (.t 5))), none⟩, ⟨(some 104), (.load false 1 (.t 103)), none⟩, ⟨(some 105), (.p (.fieldAddr 4 (.t 2))), none⟩, ⟨(some 106), (.load false 1 (.t 105)), none⟩, ⟨(some 107), (.p (.bin 0 .eql (.t 104) (.t 106))), none⟩, ⟨(some 108), (.p (.mv (.t 107))), none⟩, ⟨(some 109), (.p (.fieldAddr 5 (.t 5))), (some (108, true))⟩, ⟨(some 110), (.load false 1 (.t 109)), (some (108, true))⟩, ⟨(some 111), (.p (.bin 0 .shr (.t 110) (.c (.int .u64 (.lit 2))))), (some (108, true))⟩, ⟨(some 112), (.p (.fieldAddr 5 (.t 2))), (some (108, true))⟩, ⟨(some 113), (.load false 1 (.t 112)), (some (108, true))⟩, ⟨(some 114), (.p (.bin 0 .eql (.t 111) (.t 113))), (some (108, true))⟩, ⟨(some 115), (.pick (.t 108) (.t 114) (.c (.bool (.lit false)))), none⟩, ⟨(some 4), (.p (.mv (.t 115))), none⟩])
 .ret)
 .skip))))))))))))))
 (.seq (.reg [⟨(some 116), (.p (.fieldAddr 2 (.t 5))), none⟩, ⟨(some 117), (.load false 1 (.t 116)), none⟩, ⟨(some 118), (.p (.fieldAddr 4 (.t 2))), none⟩, ⟨(some 119), (.load false 1 (.t 118)), none⟩, ⟨(some 120), (.p (.bin 0 .eql (.t 117) (.t 119))), none⟩, ⟨(some 4), (.p (.mv (.t 120))), none⟩])
 .ret))))))⟩
/- (corral/isa.row).decode -/
def af83 : AFunc := ⟨64, [.cell 4 true 8],
 (.seq (.reg [⟨(some 2), (.box 7 (.t 0)), none⟩, ⟨(some 4), (.newC [(.int .i64 (.lit 0)), (.int .i64 (.lit 0)), (.int .i64 (.lit 0)), (.int .i64 (.lit 0)), (.int .i64 (.lit 0)), (.int .u32 (.lit 0)), (.bool (.lit false)), (.bool (.lit false))]), none⟩])
 (.seq (.reg [⟨(some 11), (.p (.mv (.t 1))), none⟩, ⟨(some 12), (.call (.f 104) [(.t 11)]), none⟩, ⟨(some 5), (.newC [(.int .u32 (.lit 0)), (.int .u32 (.lit 0)), (.int .u32 (.lit 0)), (.int .u32 (.lit 0)), (.int .u32 (.lit 0)), (.int .u32 (.lit 0))]), none⟩, ⟨none, (.store 6 (.t 5) (.t 12)), none⟩])
 (.seq (.reg [⟨(some 13), (.p (.fieldAddr 0 (.t 2))), none⟩, ⟨(some 14), (.load false 1 (.t 13)), none⟩, ⟨(some 15), (.p (.build [(.int .i64 (.lit 0)), (.int .i64 (.lit 0)), (.int .i64 (.lit 0)), (.int .i64 (.lit 0)), (.int .i64 (.lit 0)), (.int .u32 (.lit 0)), (.bool (.lit false)), (.bool (.lit false))] [(0, 1, (.t 14))])), none⟩, ⟨(some 6), (.newC [(.int .i64 (.lit 0)), (.int .i64 (.lit 0)), (.int .i64 (.lit 0)), (.int .i64 (.lit 0)), (.int .i64 (.lit 0)), (.int .u32 (.lit 0)), (.bool (.lit false)), (.bool (.lit false))]), none⟩, ⟨none, (.store 8 (.t 6) (.t 15)), none⟩])
 (.seq (.reg [⟨(some 17), (.load true 7 (.t 2)), none⟩, ⟨(some 18), (.call (.f 105) [(.t 17)]), none⟩, ⟨(some 16), (.p (.mv (.t 18))), none⟩, ⟨(some 19), (.p (.extract 0 (.t 16))), none⟩, ⟨(some 20), (.p (.extract 1 (.t 16))), none⟩, ⟨(some 21), (.p (.extract 2 (.t 16))), none⟩, ⟨(some 22), (.p (.extract 3 (.t 16))), none⟩, ⟨(some 7), (.p (.mv (.t 19))), none⟩, ⟨(some 8), (.p (.mv (.t 20))), none⟩, ⟨(some 9), (.p (.mv (.t 21))), none⟩, ⟨(some 10), (.p (.mv (.t 22))), none⟩])
 (.seq (.seq (.reg [⟨(some 23), (.p (.mv (.t 7))), none⟩])
 (.cond (.t 23) (.reg [⟨(some 24), (.p (.fieldAddr 1 (.t 5))), none⟩, ⟨(some 25), (.load false 1 (.t 24)), none⟩, ⟨(some 26), (.p (.conv .i64 (.t 25))), none⟩, ⟨(some 27), (.p (.fieldAddr 1 (.t 6))), none⟩, ⟨none, (.store 1 (.t 27) (.t 26)), none⟩])
 .skip))
 (.seq (.seq (.reg [⟨(some 28), (.p (.mv (.t 8))), none⟩])
 (.cond (.t 28) (.reg [⟨(some 29), (.p (.fieldAddr 3 (.t 5))), none⟩, ⟨(some 30), (.load false 1 (.t 29)), none⟩, ⟨(some 31), (.p (.conv .i64 (.t 30))), none⟩, ⟨(some 32), (.p (.fieldAddr 2 (.t 6))), none⟩, ⟨none, (.store 1 (.t 32) (.t 31)), none⟩])
 .skip))
 (.seq (.seq (.reg [⟨(some 33), (.p (.mv (.t 9))), none⟩])
 (.cond (.t 33) (.reg [⟨(some 34), (.p (.fieldAddr 4 (.t 5))), none⟩, ⟨(some 35), (.load false 1 (.t 34)), none⟩, ⟨(some 36), (.p (.conv .i64 (.t 35))), none⟩, ⟨(some 37), (.p (.fieldAddr 3 (.t 6))), none⟩, ⟨none, (.store 1 (.t 37) (.t 36)), none⟩])
 .skip))
 (.seq (.seq (.reg [⟨(some 38), (.p (.mv (.t 10))), none⟩])
 (.cond (.t 38) (.reg [⟨(some 39), (.load true 7 (.t 2)), none⟩, ⟨(some 40), (.p (.mv (.t 1))), none⟩, ⟨(some 41), (.call (.f 106) [(.t 39), (.t 40)]), none⟩, ⟨(some 42), (.p (.fieldAddr 5 (.t 6))), none⟩, ⟨none, (.store 1 (.t 42) (.t 41)), none⟩])
 .skip))
 (.seq (.seq (.reg [⟨(some 43), (.p (.fieldAddr 2 (.t 2))), none⟩, ⟨(some 44), (.load false 1 (.t 43)), none⟩])
 (.block 0 (.seq (.seq (.reg [⟨(some 46), (.p (.bin 0 .eql (.t 44) (.c (.int .i64 (.lit 10))))), none⟩, ⟨(some 45), (.p (.mv (.t 46))), none⟩])
 (.cond (.t 45) .skip
 (.reg [⟨(some 47), (.p (.bin 0 .eql (.t 44) (.c (.int .i64 (.lit 11))))), none⟩, ⟨(some 45), (.p (.mv (.t 47))), none⟩])))
 (.cond (.t 45) (.reg [⟨(some 48), (.p (.mv (.t 1))), none⟩, ⟨(some 49), (.call (.f 73) [(.t 48), (.c (.int .i64 (.lit 20))), (.c (.int .i64 (.lit 12)))]), none⟩, ⟨(some 50), (.p (.conv .i64 (.t 49))), none⟩, ⟨(some 51), (.p (.fieldAddr 4 (.t 6))), none⟩, ⟨none, (.store 1 (.t 51) (.t 50)), none⟩])
 (.seq (.seq (.reg [⟨(some 53), (.p (.bin 0 .eql (.t 44) (.c (.int .i64 (.lit 12))))), none⟩, ⟨(some 52), (.p (.mv (.t 53))), none⟩])
 (.cond (.t 52) .skip
 (.reg [⟨(some 54), (.p (.bin 0 .eql (.t 44) (.c (.int .i64 (.lit 13))))), none⟩, ⟨(some 52), (.p (.mv (.t 54))), none⟩])))
 (.cond (.t 52) (.reg [⟨(some 55), (.p (.mv (.t 1))), none⟩, ⟨(some 56), (.call (.f 73) [(.t 55), (.c (.int .i64 (.lit 26))), (.c (.int .i64 (.lit 1)))]), none⟩, ⟨(some 57), (.p (.bin 0 .eql (.t 56) (.c (.int .u32 (.lit 1))))), none⟩, ⟨(some 58), (.p (.mv (.t 1))), none⟩, ⟨(some 59), (.call (.f 73) [(.t 58), (.c (.int .i64 (.lit 25))), (.c (.int .i64 (.lit 1)))]), none⟩, ⟨(some 60), (.p (.bin 0 .eql (.t 59) (.c (.int .u32 (.lit 1))))), none⟩, ⟨(some 61), (.p (.fieldAddr 6 (.t 6))), none⟩, ⟨none, (.store 1 (.t 61) (.t 57)), none⟩, ⟨(some 62), (.p (.fieldAddr 7 (.t 6))), none⟩, ⟨none, (.store 1 (.t 62) (.t 60)), none⟩])
 .skip))))))
 (.seq (.reg [⟨(some 63), (.load true 8 (.t 6)), none⟩, ⟨none, (.store 8 (.t 4) (.t 63)), none⟩])
 .ret))))))))))⟩
/- corral/corralref1.row -/
def af84 : AFunc := ⟨60, [.cell 14 true 14],
 (.seq (.reg [⟨(some 14), (.newC [(.int .i64 (.lit 0)), (.str ⟨#[]⟩), (.int .u32 (.lit 0)), (.int .u32 (.lit 0)), (.int .u32 (.lit 0)), (.bool (.lit false)), (.bool (.lit false)), (.int .u8 (.lit 0)), (.bool (.lit false)), (.bool (.lit false)), (.bool (.lit false)), (.bool (.lit false)), (.int .u32 (.lit 0)), (.bool (.lit false))]), none⟩])
 (.seq (.reg [⟨(some 17), (.p (.mv (.t 0))), none⟩, ⟨(some 18), (.p (.mv (.t 1))), none⟩, ⟨(some 19), (.p (.mv (.t 2))), none⟩, ⟨(some 20), (.p (.conv .u32 (.t 19))), none⟩, ⟨(some 21), (.p (.mv (.t 5))), none⟩, ⟨(some 22), (.p (.build [(.int .i64 (.lit 0)), (.str ⟨#[]⟩), (.int .u32 (.lit 0)), (.int .u32 (.lit 0)), (.int .u32 (.lit 0)), (.bool (.lit false)), (.bool (.lit false)), (.int .u8 (.lit 0)), (.bool (.lit false)), (.bool (.lit false)), (.bool (.lit false)), (.bool (.lit false)), (.int .u32 (.lit 0)), (.bool (.lit false))] [(0, 1, (.t 17)), (1, 1, (.t 18)), (2, 1, (.t 20)), (7, 1, (.t 21))])), none⟩, ⟨(some 15), (.newC [(.int .i64 (.lit 0)), (.str ⟨#[]⟩), (.int .u32 (.lit 0)), (.int .u32 (.lit 0)), (.int .u32 (.lit 0)), (.bool (.lit false)), (.bool (.lit false)), (.int .u8 (.lit 0)), (.bool (.lit false)), (.bool (.lit false)), (.bool (.lit false)), (.bool (.lit false)), (.int .u32 (.lit 0)), (.bool (.lit false))]), none⟩, ⟨none, (.store 14 (.t 15) (.t 22)), none⟩])
 (.seq (.seq (.reg [⟨(some 23), (.p (.mv (.t 3))), none⟩, ⟨(some 24), (.p (.bin 0 .geq (.t 23) (.c (.int .i64 (.lit 0))))), none⟩])
 (.cond (.t 24) (.seq (.reg [⟨(some 25), (.p (.mv (.t 3))), none⟩, ⟨(some 26), (.p (.conv .u32 (.t 25))), none⟩, ⟨(some 27), (.p (.fieldAddr 3 (.t 15))), none⟩, ⟨none, (.store 1 (.t 27) (.t 26)), none⟩])
 (.reg [⟨(some 28), (.p (.fieldAddr 5 (.t 15))), none⟩, ⟨none, (.store 1 (.t 28) (.c (.bool (.lit true)))), none⟩]))
 .skip))
 (.seq (.seq (.reg [⟨(some 29), (.p (.mv (.t 4))), none⟩, ⟨(some 30), (.p (.bin 0 .geq (.t 29) (.c (.int .i64 (.lit 0))))), none⟩])
 (.cond (.t 30) (.seq (.reg [⟨(some 31), (.p (.mv (.t 4))), none⟩, ⟨(some 32), (.p (.conv .u32 (.t 31))), none⟩, ⟨(some 33), (.p (.fieldAddr 4 (.t 15))), none⟩, ⟨none, (.store 1 (.t 33) (.t 32)), none⟩])
 (.reg [⟨(some 34), (.p (.fieldAddr 6 (.t 15))), none⟩, ⟨none, (.store 1 (.t 34) (.c (.bool (.lit true)))), none⟩]))
 .skip))
 (.seq (.seq (.reg [⟨(some 16), (.p (.mv (.c (.int .i64 (.lit 0))))), none⟩])
 (.block 0 (.loop (.seq (.seq (.reg [⟨(some 35), (.p (.mv (.t 16))), none⟩, ⟨(some 36), (.p (.mv (.t 6))), none⟩, ⟨(some 37), (.p (.lenStr (.t 36))), none⟩, ⟨(some 38), (.p (.bin 0 .lss (.t 35) (.t 37))), none⟩])
 (.cond (.t 38) .skip
 (.exit 0)))
 (.seq (.block 1 (.seq (.reg [⟨(some 41), (.p (.mv (.t 6))), none⟩, ⟨(some 42), (.p (.mv (.t 16))), none⟩, ⟨(some 43), (.p (.idxStr (.t 41) (.t 42))), none⟩])
 (.block 2 (.seq (.reg [⟨(some 45), (.p (.bin 0 .eql (.t 43) (.c (.int .u8 (.lit 100))))), none⟩, ⟨(some 44), (.p (.mv (.t 45))), none⟩])
 (.cond (.t 44) (.reg [⟨(some 46), (.p (.fieldAddr 8 (.t 15))), none⟩, ⟨none, (.store 1 (.t 46) (.c (.bool (.lit true)))), none⟩])
 (.seq (.reg [⟨(some 48), (.p (.bin 0 .eql (.t 43) (.c (.int .u8 (.lit 97))))), none⟩, ⟨(some 47), (.p (.mv (.t 48))), none⟩])
 (.cond (.t 47) (.reg [⟨(some 49), (.p (.fieldAddr 9 (.t 15))), none⟩, ⟨none, (.store 1 (.t 49) (.c (.bool (.lit true)))), none⟩])
 (.seq (.reg [⟨(some 51), (.p (.bin 0 .eql (.t 43) (.c (.int .u8 (.lit 98))))), none⟩, ⟨(some 50), (.p (.mv (.t 51))), none⟩])
 (.cond (.t 50) (.reg [⟨(some 52), (.p (.fieldAddr 10 (.t 15))), none⟩, ⟨none, (.store 1 (.t 52) (.c (.bool (.lit true)))), none⟩])
 (.seq (.reg [⟨(some 54), (.p (.bin 0 .eql (.t 43) (.c (.int .u8 (.lit 99))))), none⟩, ⟨(some 53), (.p (.mv (.t 54))), none⟩])
 (.cond (.t 53) (.reg [⟨(some 55), (.p (.fieldAddr 11 (.t 15))), none⟩, ⟨none, (.store 1 (.t 55) (.c (.bool (.lit true)))), none⟩])
 (.seq (.reg [⟨(some 57), (.p (.bin 0 .eql (.t 43) (.c (.int .u8 (.lit 112))))), none⟩, ⟨(some 56), (.p (.mv (.t 57))), none⟩])
 (.cond (.t 56) (.reg [⟨(some 58), (.p (.fieldAddr 13 (.t 15))), none⟩, ⟨none, (.store 1 (.t 58) (.c (.bool (.lit true)))), none⟩])
 .skip)))))))))))))
 (.reg [⟨(some 39), (.p (.mv (.t 16))), none⟩, ⟨(some 40), (.p (.bin 0 .add (.t 39) (.c (.int .i64 (.lit 1))))), none⟩, ⟨(some 16), (.p (.mv (.t 40))), none⟩]))))))
 (.seq (.reg [⟨(some 59), (.load true 14 (.t 15)), none⟩, ⟨none, (.store 14 (.t 14) (.t 59)), none⟩])
 .ret))))))⟩
/- corral/corralref1.whole -/
def af85 : AFunc := ⟨11, [.cell 6 true 14],
 (.seq (.reg [⟨(some 6), (.newC [(.int .i64 (.lit 0)), (.str ⟨#[]⟩), (.int .u32 (.lit 0)), (.int .u32 (.lit 0)), (.int .u32 (.lit 0)), (.bool (.lit false)), (.bool (.lit false)), (.int .u8 (.lit 0)), (.bool (.lit false)), (.bool (.lit false)), (.bool (.lit false)), (.bool (.lit false)), (.int .u32 (.lit 0)), (.bool (.lit false))]), none⟩])
 (.seq (.reg [⟨(some 7), (.p (.mv (.t 0))), none⟩, ⟨(some 8), (.p (.mv (.t 1))), none⟩, ⟨(some 9), (.p (.mv (.t 2))), none⟩, ⟨(some 10), (.p (.build [(.int .i64 (.lit 0)), (.str ⟨#[]⟩), (.int .u32 (.lit 0)), (.int .u32 (.lit 0)), (.int .u32 (.lit 0)), (.bool (.lit false)), (.bool (.lit false)), (.int .u8 (.lit 0)), (.bool (.lit false)), (.bool (.lit false)), (.bool (.lit false)), (.bool (.lit false)), (.int .u32 (.lit 0)), (.bool (.lit false))] [(0, 1, (.t 7)), (1, 1, (.t 8)), (12, 1, (.t 9))])), none⟩, ⟨none, (.store 14 (.t 6) (.t 10)), none⟩])
 .ret))⟩
/- corral/corralref1.Place -/
def af86 : AFunc := ⟨23, [.t 6],
 (.seq (.reg [⟨(some 6), (.p (.mv (.c (.int .u32 (.lit 0))))), none⟩])
 (.seq (.seq (.reg [⟨(some 7), (.p (.mv (.t 1))), none⟩, ⟨(some 8), (.p (.bin 0 .lss (.t 7) (.c (.int .i64 (.lit 0))))), none⟩, ⟨(some 9), (.p (.mv (.t 8))), none⟩, ⟨(some 10), (.p (.mv (.t 1))), (some (9, false))⟩, ⟨(some 11), (.p (.bin 0 .gtr (.t 10) (.c (.int .i64 (.lit 31))))), (some (9, false))⟩, ⟨(some 12), (.pick (.t 9) (.c (.bool (.lit true))) (.t 11)), none⟩, ⟨(some 13), (.p (.mv (.t 12))), none⟩, ⟨(some 14), (.p (.mv (.t 2))), (some (13, false))⟩, ⟨(some 15), (.p (.bin 0 .lss (.t 14) (.c (.int .i64 (.lit 1))))), (some (13, false))⟩, ⟨(some 16), (.pick (.t 13) (.c (.bool (.lit true))) (.t 15)), none⟩])
 (.cond (.t 16) (.seq (.reg [⟨(some 6), (.p (.mv (.c (.int .u32 (.lit 0))))), none⟩])
 .ret)
 .skip))
 (.seq (.reg [⟨(some 17), (.p (.mv (.t 0))), none⟩, ⟨(some 18), (.p (.mv (.t 2))), none⟩, ⟨(some 19), (.call (.f 107) [(.t 17), (.c (.int .i64 (.lit 0))), (.t 18)]), none⟩, ⟨(some 20), (.p (.mv (.t 1))), none⟩, ⟨(some 21), (.p (.conv .u64 (.t 20))), none⟩, ⟨(some 22), (.p (.bin 0 .shl (.t 19) (.t 21))), none⟩, ⟨(some 6), (.p (.mv (.t 22))), none⟩])
 .ret)))⟩
/- corral/corralref1.Imm -/
def af87 : AFunc := ⟨61, [.t 4],
 (.seq (.reg [⟨(some 4), (.p (.mv (.c (.int .u32 (.lit 0))))), none⟩])
 (.seq (.seq (.reg [⟨(some 5), (.p (.mv (.t 0))), none⟩])
 (.block 0 (.seq (.reg [⟨(some 7), (.p (.bin 0 .eql (.t 5) (.c (.int .u8 (.lit 73))))), none⟩, ⟨(some 6), (.p (.mv (.t 7))), none⟩])
 (.cond (.t 6) (.seq (.reg [⟨(some 8), (.p (.mv (.t 1))), none⟩, ⟨(some 9), (.call (.f 107) [(.t 8), (.c (.int .i64 (.lit 20))), (.c (.int .i64 (.lit 12)))]), none⟩, ⟨(some 10), (.call (.f 108) [(.t 9), (.c (.int .i64 (.lit 12)))]), none⟩, ⟨(some 4), (.p (.mv (.t 10))), none⟩])
 .ret)
 (.seq (.reg [⟨(some 12), (.p (.bin 0 .eql (.t 5) (.c (.int .u8 (.lit 83))))), none⟩, ⟨(some 11), (.p (.mv (.t 12))), none⟩])
 (.cond (.t 11) (.seq (.reg [⟨(some 13), (.p (.mv (.t 1))), none⟩, ⟨(some 14), (.call (.f 107) [(.t 13), (.c (.int .i64 (.lit 25))), (.c (.int .i64 (.lit 7)))]), none⟩, ⟨(some 15), (.p (.bin 0 .shl (.t 14) (.c (.int .u64 (.lit 5))))), none⟩, ⟨(some 16), (.p (.mv (.t 1))), none⟩, ⟨(some 17), (.call (.f 107) [(.t 16), (.c (.int .i64 (.lit 7))), (.c (.int .i64 (.lit 5)))]), none⟩, ⟨(some 18), (.p (.bin 0 .or (.t 15) (.t 17))), none⟩, ⟨(some 19), (.call (.f 108) [(.t 18), (.c (.int .i64 (.lit 12)))]), none⟩, ⟨(some 4), (.p (.mv (.t 19))), none⟩])
 .ret)
 (.seq (.reg [⟨(some 21), (.p (.bin 0 .eql (.t 5) (.c (.int .u8 (.lit 66))))), none⟩, ⟨(some 20), (.p (.mv (.t 21))), none⟩])
 (.cond (.t 20) (.seq (.reg [⟨(some 22), (.p (.mv (.t 1))), none⟩, ⟨(some 23), (.call (.f 107) [(.t 22), (.c (.int .i64 (.lit 31))), (.c (.int .i64 (.lit 1)))]), none⟩, ⟨(some 24), (.p (.bin 0 .shl (.t 23) (.c (.int .u64 (.lit 12))))), none⟩, ⟨(some 25), (.p (.mv (.t 1))), none⟩, ⟨(some 26), (.call (.f 107) [(.t 25), (.c (.int .i64 (.lit 7))), (.c (.int .i64 (.lit 1)))]), none⟩, ⟨(some 27), (.p (.bin 0 .shl (.t 26) (.c (.int .u64 (.lit 11))))), none⟩, ⟨(some 28), (.p (.bin 0 .or (.t 24) (.t 27))), none⟩, ⟨(some 29), (.p (.mv (.t 1))), none⟩, ⟨(some 30), (.call (.f 107) [(.t 29), (.c (.int .i64 (.lit 25))), (.c (.int .i64 (.lit 6)))]), none⟩, ⟨(some 31), (.p (.bin 0 .shl (.t 30) (.c (.int .u64 (.lit 5))))), none⟩, ⟨(some 32), (.p (.bin 0 .or (.t 28) (.t 31))), none⟩, ⟨(some 33), (.p (.mv (.t 1))), none⟩, ⟨(some 34), (.call (.f 107) [(.t 33), (.c (.int .i64 (.lit 8))), (.c (.int .i64 (.lit 4)))]), none⟩, ⟨(some 35), (.p (.bin 0 .shl (.t 34) (.c (.int .u64 (.lit 1))))), none⟩, ⟨(some 36), (.p (.bin 0 .or (.t 32) (.t 35))), none⟩, ⟨(some 37), (.call (.f 108) [(.t 36), (.c (.int .i64 (.lit 13)))]), none⟩, ⟨(some 4), (.p (.mv (.t 37))), none⟩])
 .ret)
 (.seq (.reg [⟨(some 39), (.p (.bin 0 .eql (.t 5) (.c (.int .u8 (.lit 85))))), none⟩, ⟨(some 38), (.p (.mv (.t 39))), none⟩])
 (.cond (.t 38) (.seq (.reg [⟨(some 40), (.p (.mv (.t 1))), none⟩, ⟨(some 41), (.call (.f 107) [(.t 40), (.c (.int .i64 (.lit 12))), (.c (.int .i64 (.lit 20)))]), none⟩, ⟨(some 42), (.p (.bin 0 .shl (.t 41) (.c (.int .u64 (.lit 12))))), none⟩, ⟨(some 4), (.p (.mv (.t 42))), none⟩])
 .ret)
 (.seq (.reg [⟨(some 44), (.p (.bin 0 .eql (.t 5) (.c (.int .u8 (.lit 74))))), none⟩, ⟨(some 43), (.p (.mv (.t 44))), none⟩])
 (.cond (.t 43) (.seq (.reg [⟨(some 45), (.p (.mv (.t 1))), none⟩, ⟨(some 46), (.call (.f 107) [(.t 45), (.c (.int .i64 (.lit 31))), (.c (.int .i64 (.lit 1)))]), none⟩, ⟨(some 47), (.p (.bin 0 .shl (.t 46) (.c (.int .u64 (.lit 20))))), none⟩, ⟨(some 48), (.p (.mv (.t 1))), none⟩, ⟨(some 49), (.call (.f 107) [(.t 48), (.c (.int .i64 (.lit 12))), (.c (.int .i64 (.lit 8)))]), none⟩, ⟨(some 50), (.p (.bin 0 .shl (.t 49) (.c (.int .u64 (.lit 12))))), none⟩, ⟨(some 51), (.p (.bin 0 .or (.t 47) (.t 50))), none⟩, ⟨(some 52), (.p (.mv (.t 1))), none⟩, ⟨(some 53), (.call (.f 107) [(.t 52), (.c (.int .i64 (.lit 20))), (.c (.int .i64 (.lit 1)))]), none⟩, ⟨(some 54), (.p (.bin 0 .shl (.t 53) (.c (.int .u64 (.lit 11))))), none⟩, ⟨(some 55), (.p (.bin 0 .or (.t 51) (.t 54))), none⟩, ⟨(some 56), (.p (.mv (.t 1))), none⟩, ⟨(some 57), (.call (.f 107) [(.t 56), (.c (.int .i64 (.lit 21))), (.c (.int .i64 (.lit 10)))]), none⟩, ⟨(some 58), (.p (.bin 0 .shl (.t 57) (.c (.int .u64 (.lit 1))))), none⟩, ⟨(some 59), (.p (.bin 0 .or (.t 55) (.t 58))), none⟩, ⟨(some 60), (.call (.f 108) [(.t 59), (.c (.int .i64 (.lit 21)))]), none⟩, ⟨(some 4), (.p (.mv (.t 60))), none⟩])
 .ret)
 .skip))))))))))))
 (.seq (.reg [⟨(some 4), (.p (.mv (.c (.int .u32 (.lit 0))))), none⟩])
 .ret)))⟩
/- corral/walk.Next -/
def af88 : AFunc := ⟨32, [.cell 12 true 5],
 (.seq (.reg [⟨(some 12), (.newC [(.int .i64 (.lit 0)), (.int .u32 (.lit 0)), (.int .u32 (.lit 0)), (.int .u32 (.lit 0)), (.int .u32 (.lit 0))]), none⟩])
 (.seq (.reg [⟨(some 16), (.p (.mv (.t 0))), none⟩, ⟨(some 17), (.p (.mv (.t 1))), none⟩, ⟨(some 18), (.p (.mv (.t 2))), none⟩, ⟨(some 19), (.p (.mv (.t 3))), none⟩, ⟨(some 20), (.p (.mv (.t 4))), none⟩, ⟨(some 21), (.p (.mv (.t 5))), none⟩, ⟨(some 22), (.call (.f 109) [(.t 16), (.t 17), (.t 18), (.t 19), (.t 20), (.t 21)]), none⟩, ⟨(some 15), (.p (.mv (.t 22))), none⟩, ⟨(some 23), (.p (.extract 0 (.t 15))), none⟩, ⟨(some 24), (.p (.extract 1 (.t 15))), none⟩, ⟨(some 13), (.newC [(.int .i64 (.lit 0)), (.int .u32 (.lit 0)), (.int .u32 (.lit 0)), (.int .u32 (.lit 0)), (.int .u32 (.lit 0))]), none⟩, ⟨none, (.store 5 (.t 13) (.t 23)), none⟩, ⟨(some 14), (.p (.mv (.t 24))), none⟩])
 (.seq (.seq (.reg [⟨(some 25), (.p (.mv (.t 14))), none⟩, ⟨(some 26), (.p (.mv (.t 5))), none⟩, ⟨(some 27), (.p (.lenS (.t 26))), none⟩, ⟨(some 28), (.p (.bin 0 .lss (.t 25) (.t 27))), none⟩])
 (.cond (.t 28) (.seq (.reg [⟨(some 29), (.p (.mv (.t 3))), none⟩, ⟨(some 30), (.call (.f 110) [(.t 29), (.c (.bool (.lit true)))]), none⟩, ⟨none, (.store 5 (.t 12) (.t 30)), none⟩])
 .ret)
 .skip))
 (.seq (.reg [⟨(some 31), (.load true 5 (.t 13)), none⟩, ⟨none, (.store 5 (.t 12) (.t 31)), none⟩])
 .ret))))⟩
/- (*corral/csr.File).Satp -/
def af89 : AFunc := ⟨7, [.t 2],
 (.seq (.reg [⟨(some 2), (.p (.mv (.c (.int .u32 (.lit 0))))), none⟩])
 (.seq (.reg [⟨(some 3), (.p (.mv (.t 0))), none⟩, ⟨(some 4), (.p (.nilCheck (.t 3))), none⟩, ⟨(some 5), (.p (.fieldAddr 1 (.t 4))), none⟩, ⟨(some 6), (.load false 1 (.t 5)), none⟩, ⟨(some 2), (.p (.mv (.t 6))), none⟩])
 .ret))⟩
/- (*corral/csr.File).Mode -/
def af90 : AFunc := ⟨7, [.t 2],
 (.seq (.reg [⟨(some 2), (.p (.mv (.c (.int .i64 (.lit 0))))), none⟩])
 (.seq (.seq (.reg [⟨(some 3), (.p (.mv (.t 0))), none⟩, ⟨(some 4), (.p (.nilCheck (.t 3))), none⟩, ⟨(some 5), (.p (.fieldAddr 0 (.t 4))), none⟩, ⟨(some 6), (.load false 1 (.t 5)), none⟩])
 (.cond (.t 6) (.seq (.reg [⟨(some 2), (.p (.mv (.c (.int .i64 (.lit 0))))), none⟩])
 .ret)
 .skip))
 (.seq (.reg [⟨(some 2), (.p (.mv (.c (.int .i64 (.lit 3))))), none⟩])
 .ret)))⟩
/- corral/alu.Taken -/
def af91 : AFunc := ⟨36, [.t 6, .t 7],
 (.seq (.reg [⟨(some 6), (.p (.mv (.c (.bool (.lit false))))), none⟩, ⟨(some 7), (.p (.mv (.c (.bool (.lit false))))), none⟩])
 (.seq (.seq (.reg [⟨(some 8), (.p (.mv (.t 0))), none⟩])
 (.block 0 (.seq (.reg [⟨(some 10), (.p (.bin 0 .eql (.t 8) (.c (.int .i64 (.lit 5))))), none⟩, ⟨(some 9), (.p (.mv (.t 10))), none⟩])
 (.cond (.t 9) (.seq (.reg [⟨(some 11), (.p (.mv (.t 1))), none⟩, ⟨(some 12), (.p (.mv (.t 2))), none⟩, ⟨(some 13), (.p (.bin 0 .eql (.t 11) (.t 12))), none⟩, ⟨(some 6), (.p (.mv (.t 13))), none⟩, ⟨(some 7), (.p (.mv (.c (.bool (.lit true))))), none⟩])
 .ret)
 (.seq (.reg [⟨(some 15), (.p (.bin 0 .eql (.t 8) (.c (.int .i64 (.lit 6))))), none⟩, ⟨(some 14), (.p (.mv (.t 15))), none⟩])
 (.cond (.t 14) (.seq (.reg [⟨(some 16), (.p (.mv (.t 1))), none⟩, ⟨(some 17), (.p (.mv (.t 2))), none⟩, ⟨(some 18), (.p (.bin 0 .neq (.t 16) (.t 17))), none⟩, ⟨(some 6), (.p (.mv (.t 18))), none⟩, ⟨(some 7), (.p (.mv (.c (.bool (.lit true))))), none⟩])
 .ret)
 (.seq (.seq (.reg [⟨(some 20), (.p (.bin 0 .eql (.t 8) (.c (.int .i64 (.lit 7))))), none⟩, ⟨(some 19), (.p (.mv (.t 20))), none⟩])
 (.cond (.t 19) .skip
 (.reg [⟨(some 21), (.p (.bin 0 .eql (.t 8) (.c (.int .i64 (.lit 9))))), none⟩, ⟨(some 19), (.p (.mv (.t 21))), none⟩])))
 (.cond (.t 19) (.seq (.reg [⟨(some 22), (.p (.mv (.t 1))), none⟩, ⟨(some 23), (.p (.mv (.t 2))), none⟩, ⟨(some 24), (.p (.mv (.t 0))), none⟩, ⟨(some 25), (.p (.bin 0 .eql (.t 24) (.c (.int .i64 (.lit 7))))), none⟩, ⟨(some 26), (.call (.f 111) [(.t 22), (.t 23), (.t 25)]), none⟩, ⟨(some 6), (.p (.mv (.t 26))), none⟩, ⟨(some 7), (.p (.mv (.c (.bool (.lit true))))), none⟩])
 .ret)
 (.seq (.seq (.reg [⟨(some 28), (.p (.bin 0 .eql (.t 8) (.c (.int .i64 (.lit 8))))), none⟩, ⟨(some 27), (.p (.mv (.t 28))), none⟩])
 (.cond (.t 27) .skip
 (.reg [⟨(some 29), (.p (.bin 0 .eql (.t 8) (.c (.int .i64 (.lit 10))))), none⟩, ⟨(some 27), (.p (.mv (.t 29))), none⟩])))
 (.cond (.t 27) (.seq (.reg [⟨(some 30), (.p (.mv (.t 1))), none⟩, ⟨(some 31), (.p (.mv (.t 2))), none⟩, ⟨(some 32), (.p (.mv (.t 0))), none⟩, ⟨(some 33), (.p (.bin 0 .eql (.t 32) (.c (.int .i64 (.lit 8))))), none⟩, ⟨(some 34), (.call (.f 111) [(.t 30), (.t 31), (.t 33)]), none⟩, ⟨(some 35), (.p (.un .not (.t 34))), none⟩, ⟨(some 6), (.p (.mv (.t 35))), none⟩, ⟨(some 7), (.p (.mv (.c (.bool (.lit true))))), none⟩])
 .ret)
 .skip))))))))))
 (.seq (.reg [⟨(some 6), (.p (.mv (.c (.bool (.lit false))))), none⟩, ⟨(some 7), (.p (.mv (.c (.bool (.lit false))))), none⟩])
 .ret)))⟩
/- (*corral/hart.Draft).access -/
def af92 : AFunc := ⟨119, [.cell 8 true 6],
 (.seq (.reg [⟨(some 6), (.box 8 (.t 2)), none⟩, ⟨(some 8), (.newC [(.int .i64 (.lit 0)), (.int .u32 (.lit 0)), (.int .u32 (.lit 0)), (.int .i64 (.lit 0)), (.bool (.lit false)), (.int .i64 (.lit 0))]), none⟩])
 (.seq (.reg [⟨(some 20), (.p (.fieldAddr 0 (.t 6))), none⟩, ⟨(some 21), (.load false 1 (.t 20)), none⟩, ⟨(some 22), (.call (.f 78) [(.t 21)]), none⟩, ⟨(some 9), (.p (.mv (.t 22))), none⟩])
 (.seq (.reg [⟨(some 23), (.p (.mv (.t 3))), none⟩, ⟨(some 10), (.p (.mv (.t 23))), none⟩])
 (.seq (.seq (.reg [⟨(some 24), (.p (.mv (.t 9))), none⟩, ⟨(some 25), (.p (.bin 0 .neq (.t 24) (.c (.int .i64 (.lit 6))))), none⟩, ⟨(some 26), (.p (.mv (.t 25))), none⟩, ⟨(some 27), (.p (.fieldAddr 0 (.t 6))), (some (26, true))⟩, ⟨(some 28), (.load false 1 (.t 27)), (some (26, true))⟩, ⟨(some 29), (.p (.bin 0 .neq (.t 28) (.c (.int .i64 (.lit 59))))), (some (26, true))⟩, ⟨(some 30), (.pick (.t 26) (.t 29) (.c (.bool (.lit false)))), none⟩])
 (.cond (.t 30) (.reg [⟨(some 31), (.p (.mv (.t 10))), none⟩, ⟨(some 32), (.p (.fieldAddr 5 (.t 6))), none⟩, ⟨(some 33), (.load false 1 (.t 32)), none⟩, ⟨(some 34), (.p (.bin 0 .add (.t 31) (.t 33))), none⟩, ⟨(some 10), (.p (.mv (.t 34))), none⟩])
 .skip))
 (.seq (.reg [⟨(some 11), (.p (.mv (.c (.int .i64 (.lit 3))))), none⟩, ⟨(some 12), (.p (.mv (.c (.int .u32 (.lit 6))))), none⟩, ⟨(some 13), (.p (.mv (.c (.int .u32 (.lit 7))))), none⟩])
 (.seq (.seq (.reg [⟨(some 35), (.p (.mv (.t 9))), none⟩, ⟨(some 36), (.p (.bin 0 .eql (.t 35) (.c (.int .i64 (.lit 4))))), none⟩])
 (.cond (.t 36) (.reg [⟨(some 11), (.p (.mv (.c (.int .i64 (.lit 2))))), none⟩, ⟨(some 12), (.p (.mv (.c (.int .u32 (.lit 4))))), none⟩, ⟨(some 13), (.p (.mv (.c (.int .u32 (.lit 5))))), none⟩])
 .skip))
 (.seq (.reg [⟨(some 37), (.p (.fieldAddr 0 (.t 6))), none⟩, ⟨(some 38), (.load false 1 (.t 37)), none⟩, ⟨(some 39), (.call (.f 97) [(.t 38)]), none⟩, ⟨(some 14), (.p (.mv (.t 39))), none⟩])
 (.seq (.seq (.reg [⟨(some 40), (.p (.mv (.t 10))), none⟩, ⟨(some 41), (.p (.mv (.t 14))), none⟩, ⟨(some 42), (.p (.conv .u32 (.t 41))), none⟩, ⟨(some 43), (.p (.bin 0 .rem (.t 40) (.t 42))), none⟩, ⟨(some 44), (.p (.bin 0 .neq (.t 43) (.c (.int .u32 (.lit 0))))), none⟩])
 (.cond (.t 44) (.seq (.reg [⟨(some 45), (.p (.mv (.t 0))), none⟩, ⟨(some 46), (.p (.mv (.t 12))), none⟩, ⟨(some 47), (.p (.mv (.t 10))), none⟩, ⟨(some 48), (.call (.f 62) [(.t 45), (.t 46), (.t 47)]), none⟩, ⟨none, (.store 6 (.t 8) (.t 48)), none⟩])
 .ret)
 .skip))
 (.seq (.reg [⟨(some 50), (.p (.mv (.t 0))), none⟩, ⟨(some 51), (.p (.mv (.t 1))), none⟩, ⟨(some 52), (.p (.mv (.t 10))), none⟩, ⟨(some 53), (.p (.mv (.t 11))), none⟩, ⟨(some 54), (.call (.f 63) [(.t 50), (.t 51), (.t 52), (.t 53)]), none⟩, ⟨(some 49), (.p (.mv (.t 54))), none⟩, ⟨(some 55), (.p (.extract 0 (.t 49))), none⟩, ⟨(some 56), (.p (.extract 1 (.t 49))), none⟩, ⟨(some 57), (.p (.extract 2 (.t 49))), none⟩, ⟨(some 16), (.newC [(.int .i64 (.lit 0)), (.int .u32 (.lit 0)), (.int .u32 (.lit 0)), (.int .i64 (.lit 0)), (.bool (.lit false)), (.int .i64 (.lit 0))]), none⟩, ⟨(some 15), (.p (.mv (.t 55))), none⟩, ⟨none, (.store 6 (.t 16) (.t 56)), none⟩, ⟨(some 17), (.p (.mv (.t 57))), none⟩])
 (.seq (.seq (.reg [⟨(some 58), (.p (.mv (.t 17))), none⟩, ⟨(some 59), (.p (.un .not (.t 58))), none⟩])
 (.cond (.t 59) (.seq (.reg [⟨(some 60), (.load true 6 (.t 16)), none⟩, ⟨none, (.store 6 (.t 8) (.t 60)), none⟩])
 .ret)
 .skip))
 (.seq (.reg [⟨(some 61), (.p (.mv (.t 0))), none⟩, ⟨(some 62), (.p (.mv (.t 15))), none⟩, ⟨(some 63), (.p (.nilCheck (.t 61))), none⟩, ⟨(some 64), (.p (.fieldAddr 0 (.t 63))), none⟩, ⟨(some 65), (.p (.fieldAddr 4 (.t 64))), none⟩, ⟨none, (.store 1 (.t 65) (.t 62)), none⟩])
 (.seq (.reg [⟨(some 67), (.p (.mv (.t 15))), none⟩, ⟨(some 68), (.call (.f 67) [(.t 67)]), none⟩, ⟨(some 66), (.p (.mv (.t 68))), none⟩, ⟨(some 69), (.p (.extract 0 (.t 66))), none⟩, ⟨(some 70), (.p (.extract 1 (.t 66))), none⟩, ⟨(some 18), (.p (.mv (.t 69))), none⟩, ⟨(some 19), (.p (.mv (.t 70))), none⟩])
 (.seq (.seq (.reg [⟨(some 71), (.p (.mv (.t 1))), none⟩, ⟨(some 72), (.p (.mv (.t 15))), none⟩, ⟨(some 73), (.p (.mv (.t 14))), none⟩, ⟨(some 74), (.call (.f 64) [(.t 71), (.t 72), (.t 73)]), none⟩, ⟨(some 75), (.p (.un .not (.t 74))), none⟩, ⟨(some 76), (.p (.mv (.t 75))), none⟩, ⟨(some 77), (.p (.mv (.t 19))), (some (76, true))⟩, ⟨(some 78), (.p (.mv (.t 77))), (some (76, true))⟩, ⟨(some 79), (.p (.fieldAddr 0 (.t 6))), (some (78, true))⟩, ⟨(some 80), (.load false 1 (.t 79)), (some (78, true))⟩, ⟨(some 81), (.p (.bin 0 .eql (.t 80) (.c (.int .i64 (.lit 13))))), (some (78, true))⟩, ⟨(some 82), (.p (.mv (.t 81))), (some (78, true))⟩, ⟨(some 83), (.p (.fieldAddr 0 (.t 6))), (some (82, false))⟩, ⟨(some 84), (.load false 1 (.t 83)), (some (82, false))⟩, ⟨(some 85), (.p (.bin 0 .eql (.t 84) (.c (.int .i64 (.lit 18))))), (some (82, false))⟩, ⟨(some 86), (.pick (.t 82) (.c (.bool (.lit true))) (.t 85)), (some (78, true))⟩, ⟨(some 87), (.pick (.t 78) (.t 86) (.c (.bool (.lit false)))), (some (76, true))⟩, ⟨(some 88), (.p (.un .not (.t 87))), (some (76, true))⟩, ⟨(some 89), (.pick (.t 76) (.t 88) (.c (.bool (.lit false)))), none⟩])
 (.cond (.t 89) (.seq (.reg [⟨(some 90), (.p (.mv (.t 0))), none⟩, ⟨(some 91), (.p (.mv (.t 13))), none⟩, ⟨(some 92), (.p (.mv (.t 10))), none⟩, ⟨(some 93), (.call (.f 62) [(.t 90), (.t 91), (.t 92)]), none⟩, ⟨none, (.store 6 (.t 8) (.t 93)), none⟩])
 .ret)
 .skip))
 (.seq (.block 0 (.seq (.reg [⟨(some 95), (.p (.mv (.t 0))), none⟩, ⟨(some 96), (.p (.nilCheck (.t 95))), none⟩, ⟨(some 97), (.p (.fieldAddr 14 (.t 96))), none⟩, ⟨(some 98), (.load false 1 (.t 97)), none⟩, ⟨(some 99), (.p (.mv (.t 98))), none⟩, ⟨(some 100), (.p (.mv (.t 9))), (some (99, false))⟩, ⟨(some 101), (.p (.bin 0 .eql (.t 100) (.c (.int .i64 (.lit 5))))), (some (99, false))⟩, ⟨(some 102), (.pick (.t 99) (.c (.bool (.lit true))) (.t 101)), none⟩, ⟨(some 94), (.p (.mv (.t 102))), none⟩])
 (.cond (.t 94) (.seq (.reg [⟨(some 103), (.p (.mv (.t 0))), none⟩, ⟨(some 104), (.call (.f 94) [(.t 103)]), none⟩, ⟨none, (.store 6 (.t 8) (.t 104)), none⟩])
 .ret)
 (.seq (.reg [⟨(some 106), (.p (.fieldAddr 0 (.t 6))), none⟩, ⟨(some 107), (.load false 1 (.t 106)), none⟩, ⟨(some 108), (.p (.bin 0 .eql (.t 107) (.c (.int .i64 (.lit 60))))), none⟩, ⟨(some 105), (.p (.mv (.t 108))), none⟩])
 (.cond (.t 105) (.seq (.reg [⟨(some 109), (.p (.mv (.t 15))), none⟩, ⟨(some 110), (.p (.mv (.t 14))), none⟩, ⟨(some 111), (.p (.fieldAddr 0 (.t 6))), none⟩, ⟨(some 112), (.load false 1 (.t 111)), none⟩, ⟨(some 113), (.p (.build [(.int .i64 (.lit 0)), (.int .u32 (.lit 0)), (.int .u32 (.lit 0)), (.int .i64 (.lit 0)), (.bool (.lit false)), (.int .i64 (.lit 0))] [(0, 1, (.c (.int .i64 (.lit 5)))), (1, 1, (.t 109)), (3, 1, (.t 110)), (5, 1, (.t 112))])), none⟩, ⟨none, (.store 6 (.t 8) (.t 113)), none⟩])
 .ret)
 .skip)))))
 (.seq (.reg [⟨(some 114), (.p (.mv (.t 15))), none⟩, ⟨(some 115), (.p (.mv (.t 14))), none⟩, ⟨(some 116), (.p (.fieldAddr 0 (.t 6))), none⟩, ⟨(some 117), (.load false 1 (.t 116)), none⟩, ⟨(some 118), (.p (.build [(.int .i64 (.lit 0)), (.int .u32 (.lit 0)), (.int .u32 (.lit 0)), (.int .i64 (.lit 0)), (.bool (.lit false)), (.int .i64 (.lit 0))] [(0, 1, (.c (.int .i64 (.lit 4)))), (1, 1, (.t 114)), (3, 1, (.t 115)), (5, 1, (.t 117))])), none⟩, ⟨none, (.store 6 (.t 8) (.t 118)), none⟩])
 .ret)))))))))))))))⟩
/- (*corral/hart.Draft).other -/
def af93 : AFunc := ⟨93, [.cell 6 true 6],
 (.seq (.reg [⟨(some 5), (.box 8 (.t 2)), none⟩, ⟨(some 6), (.newC [(.int .i64 (.lit 0)), (.int .u32 (.lit 0)), (.int .u32 (.lit 0)), (.int .i64 (.lit 0)), (.bool (.lit false)), (.int .i64 (.lit 0))]), none⟩])
 (.seq (.reg [⟨(some 12), (.p (.mv (.t 1))), none⟩, ⟨(some 13), (.p (.nilCheck (.t 12))), none⟩, ⟨(some 14), (.p (.fieldAddr 0 (.t 13))), none⟩, ⟨(some 15), (.call (.f 90) [(.t 14)]), none⟩, ⟨(some 16), (.p (.bin 0 .eql (.t 15) (.c (.int .i64 (.lit 0))))), none⟩, ⟨(some 7), (.p (.mv (.t 16))), none⟩])
 (.seq (.seq (.reg [⟨(some 17), (.p (.fieldAddr 0 (.t 5))), none⟩, ⟨(some 18), (.load false 1 (.t 17)), none⟩])
 (.block 0 (.seq (.seq (.reg [⟨(some 20), (.p (.bin 0 .eql (.t 18) (.c (.int .i64 (.lit 38))))), none⟩, ⟨(some 19), (.p (.mv (.t 20))), none⟩])
 (.cond (.t 19) .skip
 (.reg [⟨(some 21), (.p (.bin 0 .eql (.t 18) (.c (.int .i64 (.lit 39))))), none⟩, ⟨(some 19), (.p (.mv (.t 21))), none⟩])))
 (.cond (.t 19) (.seq (.reg [⟨(some 22), (.p (.mv (.t 0))), none⟩, ⟨(some 23), (.call (.f 94) [(.t 22)]), none⟩, ⟨none, (.store 6 (.t 6) (.t 23)), none⟩])
 .ret)
 (.seq (.reg [⟨(some 25), (.p (.bin 0 .eql (.t 18) (.c (.int .i64 (.lit 40))))), none⟩, ⟨(some 24), (.p (.mv (.t 25))), none⟩])
 (.cond (.t 24) (.seq (.seq (.reg [⟨(some 26), (.p (.mv (.t 7))), none⟩])
 (.cond (.t 26) (.seq (.reg [⟨(some 27), (.p (.mv (.t 0))), none⟩, ⟨(some 28), (.call (.f 62) [(.t 27), (.c (.int .u32 (.lit 8))), (.c (.int .u32 (.lit 0)))]), none⟩, ⟨none, (.store 6 (.t 6) (.t 28)), none⟩])
 .ret)
 .skip))
 (.seq (.reg [⟨(some 29), (.p (.mv (.t 0))), none⟩, ⟨(some 30), (.call (.f 62) [(.t 29), (.c (.int .u32 (.lit 11))), (.c (.int .u32 (.lit 0)))]), none⟩, ⟨none, (.store 6 (.t 6) (.t 30)), none⟩])
 .ret))
 (.seq (.reg [⟨(some 32), (.p (.bin 0 .eql (.t 18) (.c (.int .i64 (.lit 41))))), none⟩, ⟨(some 31), (.p (.mv (.t 32))), none⟩])
 (.cond (.t 31) (.seq (.reg [⟨(some 33), (.p (.mv (.t 0))), none⟩, ⟨(some 34), (.call (.f 62) [(.t 33), (.c (.int .u32 (.lit 3))), (.c (.int .u32 (.lit 0)))]), none⟩, ⟨none, (.store 6 (.t 6) (.t 34)), none⟩])
 .ret)
 (.seq (.seq (.reg [⟨(some 36), (.p (.bin 0 .eql (.t 18) (.c (.int .i64 (.lit 42))))), none⟩, ⟨(some 35), (.p (.mv (.t 36))), none⟩])
 (.cond (.t 35) .skip
 (.seq (.reg [⟨(some 37), (.p (.bin 0 .eql (.t 18) (.c (.int .i64 (.lit 43))))), none⟩, ⟨(some 35), (.p (.mv (.t 37))), none⟩])
 (.cond (.t 35) .skip
 (.reg [⟨(some 38), (.p (.bin 0 .eql (.t 18) (.c (.int .i64 (.lit 44))))), none⟩, ⟨(some 35), (.p (.mv (.t 38))), none⟩])))))
 (.cond (.t 35) (.seq (.seq (.reg [⟨(some 39), (.p (.mv (.t 7))), none⟩])
 (.cond (.t 39) (.seq (.reg [⟨(some 40), (.p (.mv (.t 0))), none⟩, ⟨(some 41), (.p (.mv (.t 0))), none⟩, ⟨(some 42), (.p (.nilCheck (.t 41))), none⟩, ⟨(some 43), (.p (.fieldAddr 0 (.t 42))), none⟩, ⟨(some 44), (.p (.fieldAddr 2 (.t 43))), none⟩, ⟨(some 45), (.load false 1 (.t 44)), none⟩, ⟨(some 46), (.call (.f 62) [(.t 40), (.c (.int .u32 (.lit 2))), (.t 45)]), none⟩, ⟨none, (.store 6 (.t 6) (.t 46)), none⟩])
 .ret)
 .skip))
 (.seq (.reg [⟨(some 47), (.p (.mv (.t 0))), none⟩, ⟨(some 48), (.call (.f 94) [(.t 47)]), none⟩, ⟨none, (.store 6 (.t 6) (.t 48)), none⟩])
 .ret))
 .skip))))))))))
 (.seq (.draw [(⟨(some 50), (.p (.mv (.t 1))), none⟩, []), (⟨(some 51), (.p (.nilCheck (.t 50))), none⟩, []), (⟨(some 52), (.p (.fieldAddr 0 (.t 51))), none⟩, []), (⟨(some 53), (.p (.fieldAddr 4 (.t 5))), none⟩, []), (⟨(some 54), (.load false 1 (.t 53)), none⟩, []), (⟨(some 55), (.call (.f 53) [(.t 52), (.t 54)]), none⟩, []), (⟨(some 49), (.p (.mv (.t 55))), none⟩, []), (⟨(some 56), (.p (.extract 0 (.t 49))), none⟩, []), (⟨(some 57), (.p (.extract 1 (.t 49))), none⟩, []), (⟨(some 8), (.p (.mv (.t 56))), none⟩, []), (⟨(some 9), (.p (.mv (.t 57))), none⟩, [])])
 (.seq (.seq (.reg [⟨(some 59), (.load true 8 (.t 5)), none⟩, ⟨(some 60), (.call (.f 102) [(.t 59), (.c (.int .u32 (.lit 0))), (.c (.int .u32 (.lit 0)))]), none⟩, ⟨(some 58), (.p (.mv (.t 60))), none⟩, ⟨(some 61), (.p (.extract 0 (.t 58))), none⟩, ⟨(some 62), (.p (.extract 1 (.t 58))), none⟩, ⟨(some 10), (.p (.mv (.t 61))), none⟩, ⟨(some 11), (.p (.mv (.t 62))), none⟩])
 (.seq (.reg [⟨(some 63), (.p (.mv (.t 9))), none⟩, ⟨(some 64), (.p (.un .not (.t 63))), none⟩, ⟨(some 65), (.p (.mv (.t 64))), none⟩, ⟨(some 66), (.p (.mv (.t 11))), (some (65, false))⟩, ⟨(some 67), (.p (.mv (.t 66))), (some (65, false))⟩, ⟨(some 68), (.p (.fieldAddr 4 (.t 5))), (some (67, true))⟩, ⟨(some 69), (.load false 1 (.t 68)), (some (67, true))⟩, ⟨(some 70), (.p (.bin 0 .eql (.t 69) (.c (.int .i64 (.lit 3860))))), (some (67, true))⟩, ⟨(some 71), (.pick (.t 67) (.t 70) (.c (.bool (.lit false)))), (some (65, false))⟩, ⟨(some 72), (.pick (.t 65) (.c (.bool (.lit true))) (.t 71)), none⟩])
 (.cond (.t 72) (.seq (.reg [⟨(some 73), (.p (.mv (.t 0))), none⟩, ⟨(some 74), (.p (.mv (.t 0))), none⟩, ⟨(some 75), (.p (.nilCheck (.t 74))), none⟩, ⟨(some 76), (.p (.fieldAddr 0 (.t 75))), none⟩, ⟨(some 77), (.p (.fieldAddr 2 (.t 76))), none⟩, ⟨(some 78), (.load false 1 (.t 77)), none⟩, ⟨(some 79), (.call (.f 62) [(.t 73), (.c (.int .u32 (.lit 2))), (.t 78)]), none⟩, ⟨none, (.store 6 (.t 6) (.t 79)), none⟩])
 .ret)
 .skip)))
 (.seq (.seq (.reg [⟨(some 80), (.p (.fieldAddr 4 (.t 5))), none⟩, ⟨(some 81), (.load false 1 (.t 80)), none⟩, ⟨(some 82), (.p (.bin 0 .eql (.t 81) (.c (.int .i64 (.lit 836))))), none⟩, ⟨(some 83), (.p (.mv (.t 82))), none⟩, ⟨(some 84), (.p (.mv (.t 0))), (some (83, true))⟩, ⟨(some 85), (.p (.nilCheck (.t 84))), (some (83, true))⟩, ⟨(some 86), (.p (.fieldAddr 14 (.t 85))), (some (83, true))⟩, ⟨(some 87), (.load false 1 (.t 86)), (some (83, true))⟩, ⟨(some 88), (.p (.un .not (.t 87))), (some (83, true))⟩, ⟨(some 89), (.pick (.t 83) (.t 88) (.c (.bool (.lit false)))), none⟩])
 (.cond (.t 89) (.seq (.reg [⟨(some 90), (.p (.build [(.int .i64 (.lit 0)), (.int .u32 (.lit 0)), (.int .u32 (.lit 0)), (.int .i64 (.lit 0)), (.bool (.lit false)), (.int .i64 (.lit 0))] [(0, 1, (.c (.int .i64 (.lit 6))))])), none⟩, ⟨none, (.store 6 (.t 6) (.t 90)), none⟩])
 .ret)
 .skip))
 (.seq (.reg [⟨(some 91), (.p (.mv (.t 0))), none⟩, ⟨(some 92), (.call (.f 94) [(.t 91)]), none⟩, ⟨none, (.store 6 (.t 6) (.t 92)), none⟩])
 .ret)))))))⟩
/- (*corral/hart.Draft).over -/
def af94 : AFunc := ⟨8, [.cell 2 true 6],
 (.seq (.reg [⟨(some 2), (.newC [(.int .i64 (.lit 0)), (.int .u32 (.lit 0)), (.int .u32 (.lit 0)), (.int .i64 (.lit 0)), (.bool (.lit false)), (.int .i64 (.lit 0))]), none⟩])
 (.seq (.reg [⟨(some 3), (.p (.mv (.t 0))), none⟩, ⟨(some 4), (.p (.nilCheck (.t 3))), none⟩, ⟨(some 5), (.p (.fieldAddr 0 (.t 4))), none⟩, ⟨(some 6), (.p (.fieldAddr 0 (.t 5))), none⟩, ⟨none, (.store 1 (.t 6) (.c (.int .i64 (.lit 1)))), none⟩])
 (.seq (.reg [⟨(some 7), (.p (.build [(.int .i64 (.lit 0)), (.int .u32 (.lit 0)), (.int .u32 (.lit 0)), (.int .i64 (.lit 0)), (.bool (.lit false)), (.int .i64 (.lit 0))] [])), none⟩, ⟨none, (.store 6 (.t 2) (.t 7)), none⟩])
 .ret)))⟩
/- corral/alu.Do -/
def af95 : AFunc := ⟨112, [.t 6, .t 7],
 (.seq (.reg [⟨(some 6), (.p (.mv (.c (.int .u32 (.lit 0))))), none⟩, ⟨(some 7), (.p (.mv (.c (.bool (.lit false))))), none⟩])
 (.seq (.seq (.reg [⟨(some 8), (.p (.mv (.t 0))), none⟩])
 (.block 0 (.seq (.seq (.reg [⟨(some 10), (.p (.bin 0 .eql (.t 8) (.c (.int .i64 (.lit 28))))), none⟩, ⟨(some 9), (.p (.mv (.t 10))), none⟩])
 (.cond (.t 9) .skip
 (.reg [⟨(some 11), (.p (.bin 0 .eql (.t 8) (.c (.int .i64 (.lit 19))))), none⟩, ⟨(some 9), (.p (.mv (.t 11))), none⟩])))
 (.cond (.t 9) (.seq (.reg [⟨(some 12), (.p (.mv (.t 1))), none⟩, ⟨(some 13), (.p (.mv (.t 2))), none⟩, ⟨(some 14), (.p (.bin 0 .add (.t 12) (.t 13))), none⟩, ⟨(some 6), (.p (.mv (.t 14))), none⟩, ⟨(some 7), (.p (.mv (.c (.bool (.lit true))))), none⟩])
 .ret)
 (.seq (.reg [⟨(some 16), (.p (.bin 0 .eql (.t 8) (.c (.int .i64 (.lit 29))))), none⟩, ⟨(some 15), (.p (.mv (.t 16))), none⟩])
 (.cond (.t 15) (.seq (.reg [⟨(some 17), (.p (.mv (.t 1))), none⟩, ⟨(some 18), (.p (.mv (.t 2))), none⟩, ⟨(some 19), (.p (.bin 0 .sub (.t 17) (.t 18))), none⟩, ⟨(some 6), (.p (.mv (.t 19))), none⟩, ⟨(some 7), (.p (.mv (.c (.bool (.lit true))))), none⟩])
 .ret)
 (.seq (.seq (.reg [⟨(some 21), (.p (.bin 0 .eql (.t 8) (.c (.int .i64 (.lit 30))))), none⟩, ⟨(some 20), (.p (.mv (.t 21))), none⟩])
 (.cond (.t 20) .skip
 (.reg [⟨(some 22), (.p (.bin 0 .eql (.t 8) (.c (.int .i64 (.lit 25))))), none⟩, ⟨(some 20), (.p (.mv (.t 22))), none⟩])))
 (.cond (.t 20) (.seq (.reg [⟨(some 23), (.p (.mv (.t 1))), none⟩, ⟨(some 24), (.p (.mv (.t 2))), none⟩, ⟨(some 25), (.p (.bin 0 .and (.t 24) (.c (.int .u32 (.lit 31))))), none⟩, ⟨(some 26), (.p (.conv .i64 (.t 25))), none⟩, ⟨(some 27), (.call (.f 112) [(.t 23), (.t 26)]), none⟩, ⟨(some 6), (.p (.mv (.t 27))), none⟩, ⟨(some 7), (.p (.mv (.c (.bool (.lit true))))), none⟩])
 .ret)
 (.seq (.seq (.reg [⟨(some 29), (.p (.bin 0 .eql (.t 8) (.c (.int .i64 (.lit 31))))), none⟩, ⟨(some 28), (.p (.mv (.t 29))), none⟩])
 (.cond (.t 28) .skip
 (.reg [⟨(some 30), (.p (.bin 0 .eql (.t 8) (.c (.int .i64 (.lit 20))))), none⟩, ⟨(some 28), (.p (.mv (.t 30))), none⟩])))
 (.cond (.t 28) (.seq (.reg [⟨(some 31), (.p (.mv (.t 1))), none⟩, ⟨(some 32), (.p (.mv (.t 2))), none⟩, ⟨(some 33), (.call (.f 111) [(.t 31), (.t 32), (.c (.bool (.lit true)))]), none⟩, ⟨(some 34), (.call (.f 113) [(.t 33)]), none⟩, ⟨(some 6), (.p (.mv (.t 34))), none⟩, ⟨(some 7), (.p (.mv (.c (.bool (.lit true))))), none⟩])
 .ret)
 (.seq (.seq (.reg [⟨(some 36), (.p (.bin 0 .eql (.t 8) (.c (.int .i64 (.lit 32))))), none⟩, ⟨(some 35), (.p (.mv (.t 36))), none⟩])
 (.cond (.t 35) .skip
 (.reg [⟨(some 37), (.p (.bin 0 .eql (.t 8) (.c (.int .i64 (.lit 21))))), none⟩, ⟨(some 35), (.p (.mv (.t 37))), none⟩])))
 (.cond (.t 35) (.seq (.reg [⟨(some 38), (.p (.mv (.t 1))), none⟩, ⟨(some 39), (.p (.mv (.t 2))), none⟩, ⟨(some 40), (.call (.f 111) [(.t 38), (.t 39), (.c (.bool (.lit false)))]), none⟩, ⟨(some 41), (.call (.f 113) [(.t 40)]), none⟩, ⟨(some 6), (.p (.mv (.t 41))), none⟩, ⟨(some 7), (.p (.mv (.c (.bool (.lit true))))), none⟩])
 .ret)
 (.seq (.seq (.reg [⟨(some 43), (.p (.bin 0 .eql (.t 8) (.c (.int .i64 (.lit 33))))), none⟩, ⟨(some 42), (.p (.mv (.t 43))), none⟩])
 (.cond (.t 42) .skip
 (.reg [⟨(some 44), (.p (.bin 0 .eql (.t 8) (.c (.int .i64 (.lit 22))))), none⟩, ⟨(some 42), (.p (.mv (.t 44))), none⟩])))
 (.cond (.t 42) (.seq (.reg [⟨(some 45), (.p (.mv (.t 1))), none⟩, ⟨(some 46), (.p (.mv (.t 2))), none⟩, ⟨(some 47), (.p (.bin 0 .xor (.t 45) (.t 46))), none⟩, ⟨(some 6), (.p (.mv (.t 47))), none⟩, ⟨(some 7), (.p (.mv (.c (.bool (.lit true))))), none⟩])
 .ret)
 (.seq (.seq (.reg [⟨(some 49), (.p (.bin 0 .eql (.t 8) (.c (.int .i64 (.lit 34))))), none⟩, ⟨(some 48), (.p (.mv (.t 49))), none⟩])
 (.cond (.t 48) .skip
 (.reg [⟨(some 50), (.p (.bin 0 .eql (.t 8) (.c (.int .i64 (.lit 26))))), none⟩, ⟨(some 48), (.p (.mv (.t 50))), none⟩])))
 (.cond (.t 48) (.seq (.reg [⟨(some 51), (.p (.mv (.t 1))), none⟩, ⟨(some 52), (.p (.mv (.t 2))), none⟩, ⟨(some 53), (.p (.bin 0 .and (.t 52) (.c (.int .u32 (.lit 31))))), none⟩, ⟨(some 54), (.p (.conv .i64 (.t 53))), none⟩, ⟨(some 55), (.call (.f 114) [(.t 51), (.t 54), (.c (.bool (.lit false)))]), none⟩, ⟨(some 6), (.p (.mv (.t 55))), none⟩, ⟨(some 7), (.p (.mv (.c (.bool (.lit true))))), none⟩])
 .ret)
 (.seq (.seq (.reg [⟨(some 57), (.p (.bin 0 .eql (.t 8) (.c (.int .i64 (.lit 35))))), none⟩, ⟨(some 56), (.p (.mv (.t 57))), none⟩])
 (.cond (.t 56) .skip
 (.reg [⟨(some 58), (.p (.bin 0 .eql (.t 8) (.c (.int .i64 (.lit 27))))), none⟩, ⟨(some 56), (.p (.mv (.t 58))), none⟩])))
 (.cond (.t 56) (.seq (.reg [⟨(some 59), (.p (.mv (.t 1))), none⟩, ⟨(some 60), (.p (.mv (.t 2))), none⟩, ⟨(some 61), (.p (.bin 0 .and (.t 60) (.c (.int .u32 (.lit 31))))), none⟩, ⟨(some 62), (.p (.conv .i64 (.t 61))), none⟩, ⟨(some 63), (.call (.f 114) [(.t 59), (.t 62), (.c (.bool (.lit true)))]), none⟩, ⟨(some 6), (.p (.mv (.t 63))), none⟩, ⟨(some 7), (.p (.mv (.c (.bool (.lit true))))), none⟩])
 .ret)
 (.seq (.seq (.reg [⟨(some 65), (.p (.bin 0 .eql (.t 8) (.c (.int .i64 (.lit 36))))), none⟩, ⟨(some 64), (.p (.mv (.t 65))), none⟩])
 (.cond (.t 64) .skip
 (.reg [⟨(some 66), (.p (.bin 0 .eql (.t 8) (.c (.int .i64 (.lit 23))))), none⟩, ⟨(some 64), (.p (.mv (.t 66))), none⟩])))
 (.cond (.t 64) (.seq (.reg [⟨(some 67), (.p (.mv (.t 1))), none⟩, ⟨(some 68), (.p (.mv (.t 2))), none⟩, ⟨(some 69), (.p (.bin 0 .or (.t 67) (.t 68))), none⟩, ⟨(some 6), (.p (.mv (.t 69))), none⟩, ⟨(some 7), (.p (.mv (.c (.bool (.lit true))))), none⟩])
 .ret)
 (.seq (.seq (.reg [⟨(some 71), (.p (.bin 0 .eql (.t 8) (.c (.int .i64 (.lit 37))))), none⟩, ⟨(some 70), (.p (.mv (.t 71))), none⟩])
 (.cond (.t 70) .skip
 (.reg [⟨(some 72), (.p (.bin 0 .eql (.t 8) (.c (.int .i64 (.lit 24))))), none⟩, ⟨(some 70), (.p (.mv (.t 72))), none⟩])))
 (.cond (.t 70) (.seq (.reg [⟨(some 73), (.p (.mv (.t 1))), none⟩, ⟨(some 74), (.p (.mv (.t 2))), none⟩, ⟨(some 75), (.p (.bin 0 .and (.t 73) (.t 74))), none⟩, ⟨(some 6), (.p (.mv (.t 75))), none⟩, ⟨(some 7), (.p (.mv (.c (.bool (.lit true))))), none⟩])
 .ret)
 (.seq (.reg [⟨(some 77), (.p (.bin 0 .eql (.t 8) (.c (.int .i64 (.lit 51))))), none⟩, ⟨(some 76), (.p (.mv (.t 77))), none⟩])
 (.cond (.t 76) (.seq (.reg [⟨(some 78), (.p (.mv (.t 1))), none⟩, ⟨(some 79), (.p (.mv (.t 2))), none⟩, ⟨(some 80), (.p (.bin 0 .mul (.t 78) (.t 79))), none⟩, ⟨(some 6), (.p (.mv (.t 80))), none⟩, ⟨(some 7), (.p (.mv (.c (.bool (.lit true))))), none⟩])
 .ret)
 (.seq (.reg [⟨(some 82), (.p (.bin 0 .eql (.t 8) (.c (.int .i64 (.lit 52))))), none⟩, ⟨(some 81), (.p (.mv (.t 82))), none⟩])
 (.cond (.t 81) (.seq (.reg [⟨(some 83), (.p (.mv (.t 1))), none⟩, ⟨(some 84), (.p (.mv (.t 2))), none⟩, ⟨(some 85), (.call (.f 115) [(.t 83), (.t 84), (.c (.bool (.lit true))), (.c (.bool (.lit true)))]), none⟩, ⟨(some 6), (.p (.mv (.t 85))), none⟩, ⟨(some 7), (.p (.mv (.c (.bool (.lit true))))), none⟩])
 .ret)
 (.seq (.reg [⟨(some 87), (.p (.bin 0 .eql (.t 8) (.c (.int .i64 (.lit 53))))), none⟩, ⟨(some 86), (.p (.mv (.t 87))), none⟩])
 (.cond (.t 86) (.seq (.reg [⟨(some 88), (.p (.mv (.t 1))), none⟩, ⟨(some 89), (.p (.mv (.t 2))), none⟩, ⟨(some 90), (.call (.f 115) [(.t 88), (.t 89), (.c (.bool (.lit true))), (.c (.bool (.lit false)))]), none⟩, ⟨(some 6), (.p (.mv (.t 90))), none⟩, ⟨(some 7), (.p (.mv (.c (.bool (.lit true))))), none⟩])
 .ret)
 (.seq (.reg [⟨(some 92), (.p (.bin 0 .eql (.t 8) (.c (.int .i64 (.lit 54))))), none⟩, ⟨(some 91), (.p (.mv (.t 92))), none⟩])
 (.cond (.t 91) (.seq (.reg [⟨(some 93), (.p (.mv (.t 1))), none⟩, ⟨(some 94), (.p (.mv (.t 2))), none⟩, ⟨(some 95), (.call (.f 115) [(.t 93), (.t 94), (.c (.bool (.lit false))), (.c (.bool (.lit false)))]), none⟩, ⟨(some 6), (.p (.mv (.t 95))), none⟩, ⟨(some 7), (.p (.mv (.c (.bool (.lit true))))), none⟩])
 .ret)
 (.seq (.seq (.reg [⟨(some 97), (.p (.bin 0 .eql (.t 8) (.c (.int .i64 (.lit 55))))), none⟩, ⟨(some 96), (.p (.mv (.t 97))), none⟩])
 (.cond (.t 96) .skip
 (.reg [⟨(some 98), (.p (.bin 0 .eql (.t 8) (.c (.int .i64 (.lit 56))))), none⟩, ⟨(some 96), (.p (.mv (.t 98))), none⟩])))
 (.cond (.t 96) (.seq (.reg [⟨(some 99), (.p (.mv (.t 1))), none⟩, ⟨(some 100), (.p (.mv (.t 2))), none⟩, ⟨(some 101), (.p (.mv (.t 0))), none⟩, ⟨(some 102), (.p (.bin 0 .eql (.t 101) (.c (.int .i64 (.lit 55))))), none⟩, ⟨(some 103), (.call (.f 116) [(.t 99), (.t 100), (.t 102)]), none⟩, ⟨(some 6), (.p (.mv (.t 103))), none⟩, ⟨(some 7), (.p (.mv (.c (.bool (.lit true))))), none⟩])
 .ret)
 (.seq (.seq (.reg [⟨(some 105), (.p (.bin 0 .eql (.t 8) (.c (.int .i64 (.lit 57))))), none⟩, ⟨(some 104), (.p (.mv (.t 105))), none⟩])
 (.cond (.t 104) .skip
 (.reg [⟨(some 106), (.p (.bin 0 .eql (.t 8) (.c (.int .i64 (.lit 58))))), none⟩, ⟨(some 104), (.p (.mv (.t 106))), none⟩])))
 (.cond (.t 104) (.seq (.reg [⟨(some 107), (.p (.mv (.t 1))), none⟩, ⟨(some 108), (.p (.mv (.t 2))), none⟩, ⟨(some 109), (.p (.mv (.t 0))), none⟩, ⟨(some 110), (.p (.bin 0 .eql (.t 109) (.c (.int .i64 (.lit 57))))), none⟩, ⟨(some 111), (.call (.f 117) [(.t 107), (.t 108), (.t 110)]), none⟩, ⟨(some 6), (.p (.mv (.t 111))), none⟩, ⟨(some 7), (.p (.mv (.c (.bool (.lit true))))), none⟩])
 .ret)
 .skip))))))))))))))))))))))))))))))))))
 (.seq (.reg [⟨(some 6), (.p (.mv (.c (.int .u32 (.lit 0))))), none⟩, ⟨(some 7), (.p (.mv (.c (.bool (.lit false))))), none⟩])
 .ret)))⟩
/- corral/isa.find -/
def af96 : AFunc := ⟨16, [.cell 2 true 7, .t 3],
 (.seq (.reg [⟨(some 2), (.newC [(.int .i64 (.lit 0)), (.str ⟨#[]⟩), (.int .i64 (.lit 0)), (.int .u32 (.lit 0)), (.int .u32 (.lit 0)), (.int .u32 (.lit 0)), (.int .i64 (.lit 0))]), none⟩, ⟨(some 3), (.p (.mv (.c (.bool (.lit false))))), none⟩])
 (.seq (.seq (.reg [⟨(some 4), (.p (.mv (.t 0))), none⟩, ⟨(some 5), (.p (.bin 0 .lss (.t 4) (.c (.int .i64 (.lit 1))))), none⟩, ⟨(some 6), (.p (.mv (.t 5))), none⟩, ⟨(some 7), (.p (.mv (.t 0))), (some (6, false))⟩, ⟨(some 8), (.p (.bin 0 .gtr (.t 7) (.c (.int .i64 (.lit 69))))), (some (6, false))⟩, ⟨(some 9), (.pick (.t 6) (.c (.bool (.lit true))) (.t 8)), none⟩])
 (.cond (.t 9) (.seq (.reg [⟨(some 10), (.p (.build [(.int .i64 (.lit 0)), (.str ⟨#[]⟩), (.int .i64 (.lit 0)), (.int .u32 (.lit 0)), (.int .u32 (.lit 0)), (.int .u32 (.lit 0)), (.int .i64 (.lit 0))] [])), none⟩, ⟨none, (.store 7 (.t 2) (.t 10)), none⟩, ⟨(some 3), (.p (.mv (.c (.bool (.lit false))))), none⟩])
 .ret)
 .skip))
 (.seq (.reg [⟨(some 11), (.call (.f 81) []), none⟩, ⟨(some 12), (.p (.mv (.t 0))), none⟩, ⟨(some 13), (.p (.bin 0 .sub (.t 12) (.c (.int .i64 (.lit 1))))), none⟩, ⟨(some 14), (.p (.idxSl 7 (.t 11) (.t 13))), none⟩, ⟨(some 15), (.load true 7 (.t 14)), none⟩, ⟨none, (.store 7 (.t 2) (.t 15)), none⟩, ⟨(some 3), (.p (.mv (.c (.bool (.lit true))))), none⟩])
 .ret)))⟩
/- corral/alu.Size -/
def af97 : AFunc := ⟨19, [.t 2],
 (.seq (.reg [⟨(some 2), (.p (.mv (.c (.int .i64 (.lit 0))))), none⟩])
 (.seq (.seq (.reg [⟨(some 3), (.p (.mv (.t 0))), none⟩])
 (.block 0 (.seq (.seq (.reg [⟨(some 5), (.p (.bin 0 .eql (.t 3) (.c (.int .i64 (.lit 11))))), none⟩, ⟨(some 4), (.p (.mv (.t 5))), none⟩])
 (.cond (.t 4) .skip
 (.seq (.reg [⟨(some 6), (.p (.bin 0 .eql (.t 3) (.c (.int .i64 (.lit 14))))), none⟩, ⟨(some 4), (.p (.mv (.t 6))), none⟩])
 (.cond (.t 4) .skip
 (.reg [⟨(some 7), (.p (.bin 0 .eql (.t 3) (.c (.int .i64 (.lit 16))))), none⟩, ⟨(some 4), (.p (.mv (.t 7))), none⟩])))))
 (.cond (.t 4) (.seq (.reg [⟨(some 2), (.p (.mv (.c (.int .i64 (.lit 1))))), none⟩])
 .ret)
 (.seq (.seq (.reg [⟨(some 9), (.p (.bin 0 .eql (.t 3) (.c (.int .i64 (.lit 12))))), none⟩, ⟨(some 8), (.p (.mv (.t 9))), none⟩])
 (.cond (.t 8) .skip
 (.seq (.reg [⟨(some 10), (.p (.bin 0 .eql (.t 3) (.c (.int .i64 (.lit 15))))), none⟩, ⟨(some 8), (.p (.mv (.t 10))), none⟩])
 (.cond (.t 8) .skip
 (.reg [⟨(some 11), (.p (.bin 0 .eql (.t 3) (.c (.int .i64 (.lit 17))))), none⟩, ⟨(some 8), (.p (.mv (.t 11))), none⟩])))))
 (.cond (.t 8) (.seq (.reg [⟨(some 2), (.p (.mv (.c (.int .i64 (.lit 2))))), none⟩])
 .ret)
 (.seq (.seq (.reg [⟨(some 13), (.p (.bin 0 .eql (.t 3) (.c (.int .i64 (.lit 13))))), none⟩, ⟨(some 12), (.p (.mv (.t 13))), none⟩])
 (.cond (.t 12) .skip
 (.seq (.reg [⟨(some 14), (.p (.bin 0 .eql (.t 3) (.c (.int .i64 (.lit 18))))), none⟩, ⟨(some 12), (.p (.mv (.t 14))), none⟩])
 (.cond (.t 12) .skip
 (.reg [⟨(some 15), (.p (.bin 0 .eql (.t 3) (.c (.int .i64 (.lit 59))))), none⟩, ⟨(some 12), (.p (.mv (.t 15))), none⟩])))))
 (.cond (.t 12) (.seq (.reg [⟨(some 2), (.p (.mv (.c (.int .i64 (.lit 4))))), none⟩])
 .ret)
 .skip))))))))
 (.seq (.seq (.reg [⟨(some 16), (.p (.mv (.t 0))), none⟩, ⟨(some 17), (.call (.f 78) [(.t 16)]), none⟩, ⟨(some 18), (.p (.bin 0 .eql (.t 17) (.c (.int .i64 (.lit 6))))), none⟩])
 (.cond (.t 18) (.seq (.reg [⟨(some 2), (.p (.mv (.c (.int .i64 (.lit 4))))), none⟩])
 .ret)
 .skip))
 (.seq (.reg [⟨(some 2), (.p (.mv (.c (.int .i64 (.lit 0))))), none⟩])
 .ret))))⟩
/- corral/alu.Extend -/
def af98 : AFunc := ⟨24, [.t 4],
 (.seq (.reg [⟨(some 4), (.p (.mv (.c (.int .u32 (.lit 0))))), none⟩])
 (.seq (.seq (.reg [⟨(some 6), (.p (.mv (.t 0))), none⟩, ⟨(some 7), (.call (.f 118) [(.t 6)]), none⟩, ⟨(some 8), (.p (.un .not (.t 7))), none⟩])
 (.cond (.t 8) (.seq (.reg [⟨(some 4), (.p (.mv (.c (.int .u32 (.lit 0))))), none⟩])
 .ret)
 .skip))
 (.seq (.reg [⟨(some 9), (.p (.mv (.t 0))), none⟩, ⟨(some 10), (.call (.f 97) [(.t 9)]), none⟩, ⟨(some 11), (.p (.bin 0 .mul (.c (.int .i64 (.lit 8))) (.t 10))), none⟩, ⟨(some 5), (.p (.mv (.t 11))), none⟩])
 (.seq (.seq (.reg [⟨(some 12), (.p (.mv (.t 0))), none⟩, ⟨(some 13), (.p (.bin 0 .eql (.t 12) (.c (.int .i64 (.lit 11))))), none⟩, ⟨(some 14), (.p (.mv (.t 13))), none⟩, ⟨(some 15), (.p (.mv (.t 0))), (some (14, false))⟩, ⟨(some 16), (.p (.bin 0 .eql (.t 15) (.c (.int .i64 (.lit 12))))), (some (14, false))⟩, ⟨(some 17), (.pick (.t 14) (.c (.bool (.lit true))) (.t 16)), none⟩])
 (.cond (.t 17) (.seq (.reg [⟨(some 18), (.p (.mv (.t 1))), none⟩, ⟨(some 19), (.p (.mv (.t 5))), none⟩, ⟨(some 20), (.call (.f 119) [(.t 18), (.t 19)]), none⟩, ⟨(some 4), (.p (.mv (.t 20))), none⟩])
 .ret)
 .skip))
 (.seq (.reg [⟨(some 21), (.p (.mv (.t 1))), none⟩, ⟨(some 22), (.p (.mv (.t 5))), none⟩, ⟨(some 23), (.call (.f 73) [(.t 21), (.c (.int .i64 (.lit 0))), (.t 22)]), none⟩, ⟨(some 4), (.p (.mv (.t 23))), none⟩])
 .ret)))))⟩
/- corral/alu.Cut -/
def af99 : AFunc := ⟨17, [.t 4],
 (.seq (.reg [⟨(some 4), (.p (.mv (.c (.int .u32 (.lit 0))))), none⟩])
 (.seq (.seq (.reg [⟨(some 5), (.p (.mv (.t 0))), none⟩, ⟨(some 6), (.call (.f 78) [(.t 5)]), none⟩, ⟨(some 7), (.p (.bin 0 .neq (.t 6) (.c (.int .i64 (.lit 5))))), none⟩, ⟨(some 8), (.p (.mv (.t 7))), none⟩, ⟨(some 9), (.p (.mv (.t 0))), (some (8, true))⟩, ⟨(some 10), (.p (.bin 0 .neq (.t 9) (.c (.int .i64 (.lit 60))))), (some (8, true))⟩, ⟨(some 11), (.pick (.t 8) (.t 10) (.c (.bool (.lit false)))), none⟩])
 (.cond (.t 11) (.seq (.reg [⟨(some 4), (.p (.mv (.c (.int .u32 (.lit 0))))), none⟩])
 .ret)
 .skip))
 (.seq (.reg [⟨(some 12), (.p (.mv (.t 1))), none⟩, ⟨(some 13), (.p (.mv (.t 0))), none⟩, ⟨(some 14), (.call (.f 97) [(.t 13)]), none⟩, ⟨(some 15), (.p (.bin 0 .mul (.c (.int .i64 (.lit 8))) (.t 14))), none⟩, ⟨(some 16), (.call (.f 73) [(.t 12), (.c (.int .i64 (.lit 0))), (.t 15)]), none⟩, ⟨(some 4), (.p (.mv (.t 16))), none⟩])
 .ret)))⟩
/- corral/alu.Amo -/
def af100 : AFunc := ⟨58, [.t 6, .t 7],
 (.seq (.reg [⟨(some 4), (.box 1 (.t 1)), none⟩, ⟨(some 5), (.box 1 (.t 2)), none⟩, ⟨(some 6), (.p (.mv (.c (.int .u32 (.lit 0))))), none⟩, ⟨(some 7), (.p (.mv (.c (.bool (.lit false))))), none⟩])
 (.seq (.reg [⟨(some 9), (.p (.mkFunc 120 [] [(.t 4), (.t 5)])), none⟩, ⟨(some 8), (.p (.mv (.t 9))), none⟩])
 (.seq (.seq (.reg [⟨(some 10), (.p (.mv (.t 0))), none⟩])
 (.block 0 (.seq (.reg [⟨(some 12), (.p (.bin 0 .eql (.t 10) (.c (.int .i64 (.lit 61))))), none⟩, ⟨(some 11), (.p (.mv (.t 12))), none⟩])
 (.cond (.t 11) (.seq (.reg [⟨(some 13), (.load false 1 (.t 5)), none⟩, ⟨(some 6), (.p (.mv (.t 13))), none⟩, ⟨(some 7), (.p (.mv (.c (.bool (.lit true))))), none⟩])
 .ret)
 (.seq (.reg [⟨(some 15), (.p (.bin 0 .eql (.t 10) (.c (.int .i64 (.lit 62))))), none⟩, ⟨(some 14), (.p (.mv (.t 15))), none⟩])
 (.cond (.t 14) (.seq (.reg [⟨(some 16), (.load false 1 (.t 4)), none⟩, ⟨(some 17), (.load false 1 (.t 5)), none⟩, ⟨(some 18), (.p (.bin 0 .add (.t 16) (.t 17))), none⟩, ⟨(some 6), (.p (.mv (.t 18))), none⟩, ⟨(some 7), (.p (.mv (.c (.bool (.lit true))))), none⟩])
 .ret)
 (.seq (.reg [⟨(some 20), (.p (.bin 0 .eql (.t 10) (.c (.int .i64 (.lit 63))))), none⟩, ⟨(some 19), (.p (.mv (.t 20))), none⟩])
 (.cond (.t 19) (.seq (.reg [⟨(some 21), (.load false 1 (.t 4)), none⟩, ⟨(some 22), (.load false 1 (.t 5)), none⟩, ⟨(some 23), (.p (.bin 0 .xor (.t 21) (.t 22))), none⟩, ⟨(some 6), (.p (.mv (.t 23))), none⟩, ⟨(some 7), (.p (.mv (.c (.bool (.lit true))))), none⟩])
 .ret)
 (.seq (.reg [⟨(some 25), (.p (.bin 0 .eql (.t 10) (.c (.int .i64 (.lit 64))))), none⟩, ⟨(some 24), (.p (.mv (.t 25))), none⟩])
 (.cond (.t 24) (.seq (.reg [⟨(some 26), (.load false 1 (.t 4)), none⟩, ⟨(some 27), (.load false 1 (.t 5)), none⟩, ⟨(some 28), (.p (.bin 0 .and (.t 26) (.t 27))), none⟩, ⟨(some 6), (.p (.mv (.t 28))), none⟩, ⟨(some 7), (.p (.mv (.c (.bool (.lit true))))), none⟩])
 .ret)
 (.seq (.reg [⟨(some 30), (.p (.bin 0 .eql (.t 10) (.c (.int .i64 (.lit 65))))), none⟩, ⟨(some 29), (.p (.mv (.t 30))), none⟩])
 (.cond (.t 29) (.seq (.reg [⟨(some 31), (.load false 1 (.t 4)), none⟩, ⟨(some 32), (.load false 1 (.t 5)), none⟩, ⟨(some 33), (.p (.bin 0 .or (.t 31) (.t 32))), none⟩, ⟨(some 6), (.p (.mv (.t 33))), none⟩, ⟨(some 7), (.p (.mv (.c (.bool (.lit true))))), none⟩])
 .ret)
 (.seq (.seq (.reg [⟨(some 35), (.p (.bin 0 .eql (.t 10) (.c (.int .i64 (.lit 66))))), none⟩, ⟨(some 34), (.p (.mv (.t 35))), none⟩])
 (.cond (.t 34) .skip
 (.reg [⟨(some 36), (.p (.bin 0 .eql (.t 10) (.c (.int .i64 (.lit 68))))), none⟩, ⟨(some 34), (.p (.mv (.t 36))), none⟩])))
 (.cond (.t 34) (.seq (.reg [⟨(some 37), (.p (.mv (.t 8))), none⟩, ⟨(some 38), (.load false 1 (.t 4)), none⟩, ⟨(some 39), (.load false 1 (.t 5)), none⟩, ⟨(some 40), (.p (.mv (.t 0))), none⟩, ⟨(some 41), (.p (.bin 0 .eql (.t 40) (.c (.int .i64 (.lit 66))))), none⟩, ⟨(some 42), (.call (.f 111) [(.t 38), (.t 39), (.t 41)]), none⟩, ⟨(some 43), (.call (.t 37) [(.t 42)]), none⟩, ⟨(some 44), (.p (.extract 0 (.t 43))), none⟩, ⟨(some 45), (.p (.extract 1 (.t 43))), none⟩, ⟨(some 6), (.p (.mv (.t 44))), none⟩, ⟨(some 7), (.p (.mv (.t 45))), none⟩])
 .ret)
 (.seq (.seq (.reg [⟨(some 47), (.p (.bin 0 .eql (.t 10) (.c (.int .i64 (.lit 67))))), none⟩, ⟨(some 46), (.p (.mv (.t 47))), none⟩])
 (.cond (.t 46) .skip
 (.reg [⟨(some 48), (.p (.bin 0 .eql (.t 10) (.c (.int .i64 (.lit 69))))), none⟩, ⟨(some 46), (.p (.mv (.t 48))), none⟩])))
 (.cond (.t 46) (.seq (.reg [⟨(some 49), (.p (.mv (.t 8))), none⟩, ⟨(some 50), (.load false 1 (.t 5)), none⟩, ⟨(some 51), (.load false 1 (.t 4)), none⟩, ⟨(some 52), (.p (.mv (.t 0))), none⟩, ⟨(some 53), (.p (.bin 0 .eql (.t 52) (.c (.int .i64 (.lit 67))))), none⟩, ⟨(some 54), (.call (.f 111) [(.t 50), (.t 51), (.t 53)]), none⟩, ⟨(some 55), (.call (.t 49) [(.t 54)]), none⟩, ⟨(some 56), (.p (.extract 0 (.t 55))), none⟩, ⟨(some 57), (.p (.extract 1 (.t 55))), none⟩, ⟨(some 6), (.p (.mv (.t 56))), none⟩, ⟨(some 7), (.p (.mv (.t 57))), none⟩])
 .ret)
 .skip))))))))))))))))
 (.seq (.reg [⟨(some 6), (.p (.mv (.c (.int .u32 (.lit 0))))), none⟩, ⟨(some 7), (.p (.mv (.c (.bool (.lit false))))), none⟩])
 .ret))))⟩
/- (*corral/csr.File).Return -/
def af101 : AFunc := ⟨26, [.t 2],
 (.seq (.reg [⟨(some 2), (.p (.mv (.c (.int .u32 (.lit 0))))), none⟩])
 (.seq (.reg [⟨(some 3), (.p (.mv (.t 0))), none⟩, ⟨(some 4), (.p (.mv (.t 0))), none⟩, ⟨(some 5), (.p (.nilCheck (.t 4))), none⟩, ⟨(some 6), (.p (.fieldAddr 2 (.t 5))), none⟩, ⟨(some 7), (.load false 1 (.t 6)), none⟩, ⟨(some 8), (.call (.f 73) [(.t 7), (.c (.int .i64 (.lit 11))), (.c (.int .i64 (.lit 2)))]), none⟩, ⟨(some 9), (.p (.bin 0 .neq (.t 8) (.c (.int .u32 (.lit 3))))), none⟩, ⟨(some 10), (.p (.nilCheck (.t 3))), none⟩, ⟨(some 11), (.p (.fieldAddr 0 (.t 10))), none⟩, ⟨none, (.store 1 (.t 11) (.t 9)), none⟩])
 (.seq (.reg [⟨(some 12), (.p (.mv (.t 0))), none⟩, ⟨(some 13), (.p (.mv (.t 0))), none⟩, ⟨(some 14), (.p (.nilCheck (.t 13))), none⟩, ⟨(some 15), (.p (.fieldAddr 2 (.t 14))), none⟩, ⟨(some 16), (.load false 1 (.t 15)), none⟩, ⟨(some 17), (.p (.bin 0 .and (.t 16) (.c (.int .u32 (.lit 128))))), none⟩, ⟨(some 18), (.p (.bin 0 .shr (.t 17) (.c (.int .u64 (.lit 4))))), none⟩, ⟨(some 19), (.p (.bin 0 .or (.t 18) (.c (.int .u32 (.lit 128))))), none⟩, ⟨(some 20), (.p (.nilCheck (.t 12))), none⟩, ⟨(some 21), (.p (.fieldAddr 2 (.t 20))), none⟩, ⟨none, (.store 1 (.t 21) (.t 19)), none⟩])
 (.seq (.reg [⟨(some 22), (.p (.mv (.t 0))), none⟩, ⟨(some 23), (.p (.nilCheck (.t 22))), none⟩, ⟨(some 24), (.p (.fieldAddr 6 (.t 23))), none⟩, ⟨(some 25), (.load false 1 (.t 24)), none⟩, ⟨(some 2), (.p (.mv (.t 25))), none⟩])
 .ret))))⟩
/- corral/hart.control -/
def af102 : AFunc := ⟨37, [.t 6, .t 7],
 (.seq (.reg [⟨(some 3), (.box 8 (.t 0)), none⟩, ⟨(some 6), (.p (.mv (.c (.int .u32 (.lit 0))))), none⟩, ⟨(some 7), (.p (.mv (.c (.bool (.lit false))))), none⟩])
 (.seq (.reg [⟨(some 9), (.p (.fieldAddr 2 (.t 3))), none⟩, ⟨(some 10), (.load false 1 (.t 9)), none⟩, ⟨(some 11), (.p (.bin 0 .neq (.t 10) (.c (.int .i64 (.lit 0))))), none⟩, ⟨(some 8), (.p (.mv (.t 11))), none⟩])
 (.seq (.seq (.reg [⟨(some 12), (.p (.fieldAddr 0 (.t 3))), none⟩, ⟨(some 13), (.load false 1 (.t 12)), none⟩, ⟨(some 14), (.p (.bin 0 .geq (.t 13) (.c (.int .i64 (.lit 48))))), none⟩])
 (.cond (.t 14) (.draw [(⟨(some 15), (.p (.fieldAddr 5 (.t 3))), none⟩, []), (⟨(some 16), (.load false 1 (.t 15)), none⟩, []), (⟨(some 17), (.p (.fieldAddr 5 (.t 3))), none⟩, []), (⟨(some 18), (.load false 1 (.t 17)), none⟩, []), (⟨(some 19), (.p (.bin 0 .neq (.t 18) (.c (.int .u32 (.lit 0))))), none⟩, []), (⟨(some 2), (.p (.mv (.t 16))), none⟩, []), (⟨(some 8), (.p (.mv (.t 19))), none⟩, [])])
 .skip))
 (.seq (.seq (.reg [⟨(some 20), (.p (.fieldAddr 0 (.t 3))), none⟩, ⟨(some 21), (.load false 1 (.t 20)), none⟩])
 (.block 0 (.seq (.seq (.reg [⟨(some 23), (.p (.bin 0 .eql (.t 21) (.c (.int .i64 (.lit 45))))), none⟩, ⟨(some 22), (.p (.mv (.t 23))), none⟩])
 (.cond (.t 22) .skip
 (.reg [⟨(some 24), (.p (.bin 0 .eql (.t 21) (.c (.int .i64 (.lit 48))))), none⟩, ⟨(some 22), (.p (.mv (.t 24))), none⟩])))
 (.cond (.t 22) (.seq (.reg [⟨(some 25), (.p (.mv (.t 2))), none⟩, ⟨(some 6), (.p (.mv (.t 25))), none⟩, ⟨(some 7), (.p (.mv (.c (.bool (.lit true))))), none⟩])
 .ret)
 (.seq (.seq (.reg [⟨(some 27), (.p (.bin 0 .eql (.t 21) (.c (.int .i64 (.lit 46))))), none⟩, ⟨(some 26), (.p (.mv (.t 27))), none⟩])
 (.cond (.t 26) .skip
 (.reg [⟨(some 28), (.p (.bin 0 .eql (.t 21) (.c (.int .i64 (.lit 49))))), none⟩, ⟨(some 26), (.p (.mv (.t 28))), none⟩])))
 (.cond (.t 26) (.seq (.reg [⟨(some 29), (.p (.mv (.t 1))), none⟩, ⟨(some 30), (.p (.mv (.t 2))), none⟩, ⟨(some 31), (.p (.bin 0 .or (.t 29) (.t 30))), none⟩, ⟨(some 32), (.p (.mv (.t 8))), none⟩, ⟨(some 6), (.p (.mv (.t 31))), none⟩, ⟨(some 7), (.p (.mv (.t 32))), none⟩])
 .ret)
 .skip))))))
 (.seq (.reg [⟨(some 33), (.p (.mv (.t 1))), none⟩, ⟨(some 34), (.p (.mv (.t 2))), none⟩, ⟨(some 35), (.p (.bin 0 .andNot (.t 33) (.t 34))), none⟩, ⟨(some 36), (.p (.mv (.t 8))), none⟩, ⟨(some 6), (.p (.mv (.t 35))), none⟩, ⟨(some 7), (.p (.mv (.t 36))), none⟩])
 .ret)))))⟩
/- (*corral/csr.File).Set -/
def af103 : AFunc := ⟨56, [.t 6],
 (.seq (.reg [⟨(some 6), (.p (.mv (.c (.bool (.lit false))))), none⟩])
 (.seq (.reg [⟨(some 9), (.p (.mv (.t 0))), none⟩, ⟨(some 10), (.p (.mv (.t 1))), none⟩, ⟨(some 11), (.call (.f 71) [(.t 9), (.t 10)]), none⟩, ⟨(some 7), (.p (.mv (.t 11))), none⟩])
 (.seq (.seq (.reg [⟨(some 12), (.p (.mv (.t 7))), none⟩, ⟨(some 13), (.p (.nilEq 0 false (.t 12) (.c .nilPtr))), none⟩, ⟨(some 14), (.p (.mv (.t 13))), none⟩, ⟨(some 15), (.p (.mv (.t 0))), (some (14, false))⟩, ⟨(some 16), (.p (.nilCheck (.t 15))), (some (14, false))⟩, ⟨(some 17), (.p (.fieldAddr 0 (.t 16))), (some (14, false))⟩, ⟨(some 18), (.load false 1 (.t 17)), (some (14, false))⟩, ⟨(some 19), (.pick (.t 14) (.c (.bool (.lit true))) (.t 18)), none⟩, ⟨(some 20), (.p (.mv (.t 19))), none⟩, ⟨(some 21), (.p (.mv (.t 1))), (some (20, false))⟩, ⟨(some 22), (.p (.bin 0 .eql (.t 21) (.c (.int .i64 (.lit 3860))))), (some (20, false))⟩, ⟨(some 23), (.pick (.t 20) (.c (.bool (.lit true))) (.t 22)), none⟩])
 (.cond (.t 23) (.seq (.reg [⟨(some 6), (.p (.mv (.c (.bool (.lit false))))), none⟩])
 .ret)
 .skip))
 (.seq (.seq (.reg [⟨(some 24), (.p (.mv (.t 1))), none⟩])
 (.block 0 (.seq (.reg [⟨(some 26), (.p (.bin 0 .eql (.t 24) (.c (.int .i64 (.lit 768))))), none⟩, ⟨(some 25), (.p (.mv (.t 26))), none⟩])
 (.cond (.t 25) (.seq (.reg [⟨(some 27), (.p (.mv (.t 2))), none⟩, ⟨(some 28), (.p (.bin 0 .and (.t 27) (.c (.int .u32 (.lit 136))))), none⟩, ⟨(some 8), (.p (.mv (.t 28))), none⟩])
 (.seq (.seq (.reg [⟨(some 29), (.p (.mv (.t 2))), none⟩, ⟨(some 30), (.call (.f 73) [(.t 29), (.c (.int .i64 (.lit 11))), (.c (.int .i64 (.lit 2)))]), none⟩, ⟨(some 31), (.p (.bin 0 .eql (.t 30) (.c (.int .u32 (.lit 3))))), none⟩])
 (.cond (.t 31) (.reg [⟨(some 32), (.p (.mv (.t 8))), none⟩, ⟨(some 33), (.p (.bin 0 .or (.t 32) (.c (.int .u32 (.lit 6144))))), none⟩, ⟨(some 8), (.p (.mv (.t 33))), none⟩])
 .skip))
 (.reg [⟨(some 34), (.p (.mv (.t 8))), none⟩, ⟨(some 2), (.p (.mv (.t 34))), none⟩])))
 (.seq (.reg [⟨(some 36), (.p (.bin 0 .eql (.t 24) (.c (.int .i64 (.lit 772))))), none⟩, ⟨(some 35), (.p (.mv (.t 36))), none⟩])
 (.cond (.t 35) (.reg [⟨(some 37), (.p (.mv (.t 2))), none⟩, ⟨(some 38), (.p (.bin 0 .and (.t 37) (.c (.int .u32 (.lit 8))))), none⟩, ⟨(some 2), (.p (.mv (.t 38))), none⟩])
 (.seq (.seq (.reg [⟨(some 40), (.p (.bin 0 .eql (.t 24) (.c (.int .i64 (.lit 773))))), none⟩, ⟨(some 39), (.p (.mv (.t 40))), none⟩])
 (.cond (.t 39) .skip
 (.reg [⟨(some 41), (.p (.bin 0 .eql (.t 24) (.c (.int .i64 (.lit 833))))), none⟩, ⟨(some 39), (.p (.mv (.t 41))), none⟩])))
 (.cond (.t 39) (.reg [⟨(some 42), (.p (.mv (.t 2))), none⟩, ⟨(some 43), (.p (.bin 0 .and (.t 42) (.c (.int .u32 (.lit 4294967292))))), none⟩, ⟨(some 2), (.p (.mv (.t 43))), none⟩])
 (.seq (.reg [⟨(some 45), (.p (.bin 0 .eql (.t 24) (.c (.int .i64 (.lit 836))))), none⟩, ⟨(some 44), (.p (.mv (.t 45))), none⟩])
 (.cond (.t 44) (.reg [⟨(some 46), (.p (.mv (.t 7))), none⟩, ⟨(some 47), (.p (.nilCheck (.t 46))), none⟩, ⟨(some 48), (.load false 1 (.t 47)), none⟩, ⟨(some 2), (.p (.mv (.t 48))), none⟩])
 (.seq (.reg [⟨(some 50), (.p (.bin 0 .eql (.t 24) (.c (.int .i64 (.lit 384))))), none⟩, ⟨(some 49), (.p (.mv (.t 50))), none⟩])
 (.cond (.t 49) (.reg [⟨(some 51), (.p (.mv (.t 2))), none⟩, ⟨(some 52), (.p (.bin 0 .and (.t 51) (.c (.int .u32 (.lit 2151677951))))), none⟩, ⟨(some 2), (.p (.mv (.t 52))), none⟩])
 .skip))))))))))))
 (.seq (.reg [⟨(some 53), (.p (.mv (.t 7))), none⟩, ⟨(some 54), (.p (.mv (.t 2))), none⟩, ⟨(some 55), (.p (.nilCheck (.t 53))), none⟩, ⟨none, (.store 1 (.t 55) (.t 54)), none⟩])
 (.seq (.reg [⟨(some 6), (.p (.mv (.c (.bool (.lit true))))), none⟩])
 .ret))))))⟩
/- corral/enc.Split -/
def af104 : AFunc := ⟨16, [.cell 2 true 6],
 (.seq (.reg [⟨(some 2), (.newC [(.int .u32 (.lit 0)), (.int .u32 (.lit 0)), (.int .u32 (.lit 0)), (.int .u32 (.lit 0)), (.int .u32 (.lit 0)), (.int .u32 (.lit 0))]), none⟩])
 (.seq (.reg [⟨(some 3), (.p (.mv (.t 0))), none⟩, ⟨(some 4), (.call (.f 73) [(.t 3), (.c (.int .i64 (.lit 0))), (.c (.int .i64 (.lit 7)))]), none⟩, ⟨(some 5), (.p (.mv (.t 0))), none⟩, ⟨(some 6), (.call (.f 73) [(.t 5), (.c (.int .i64 (.lit 7))), (.c (.int .i64 (.lit 5)))]), none⟩, ⟨(some 7), (.p (.mv (.t 0))), none⟩, ⟨(some 8), (.call (.f 73) [(.t 7), (.c (.int .i64 (.lit 12))), (.c (.int .i64 (.lit 3)))]), none⟩, ⟨(some 9), (.p (.mv (.t 0))), none⟩, ⟨(some 10), (.call (.f 73) [(.t 9), (.c (.int .i64 (.lit 15))), (.c (.int .i64 (.lit 5)))]), none⟩, ⟨(some 11), (.p (.mv (.t 0))), none⟩, ⟨(some 12), (.call (.f 73) [(.t 11), (.c (.int .i64 (.lit 20))), (.c (.int .i64 (.lit 5)))]), none⟩, ⟨(some 13), (.p (.mv (.t 0))), none⟩, ⟨(some 14), (.call (.f 73) [(.t 13), (.c (.int .i64 (.lit 25))), (.c (.int .i64 (.lit 7)))]), none⟩, ⟨(some 15), (.p (.build [(.int .u32 (.lit 0)), (.int .u32 (.lit 0)), (.int .u32 (.lit 0)), (.int .u32 (.lit 0)), (.int .u32 (.lit 0)), (.int .u32 (.lit 0))] [(0, 1, (.t 4)), (1, 1, (.t 6)), (2, 1, (.t 8)), (3, 1, (.t 10)), (4, 1, (.t 12)), (5, 1, (.t 14))])), none⟩, ⟨none, (.store 6 (.t 2) (.t 15)), none⟩])
 .ret))⟩
/- (corral/isa.row).uses -/
def af105 : AFunc := ⟨26, [.t 2, .t 3, .t 4, .t 5],
 (.seq (.reg [⟨(some 1), (.box 7 (.t 0)), none⟩, ⟨(some 2), (.p (.mv (.c (.bool (.lit false))))), none⟩, ⟨(some 3), (.p (.mv (.c (.bool (.lit false))))), none⟩, ⟨(some 4), (.p (.mv (.c (.bool (.lit false))))), none⟩, ⟨(some 5), (.p (.mv (.c (.bool (.lit false))))), none⟩])
 (.seq (.reg [⟨(some 7), (.p (.mkFunc 121 [] [(.t 1)])), none⟩, ⟨(some 6), (.p (.mv (.t 7))), none⟩])
 (.seq (.reg [⟨(some 8), (.p (.mv (.t 6))), none⟩, ⟨(some 9), (.mkArr 1 5 [(.int .i64 (.lit 0))] [(0, 1, (.c (.int .i64 (.lit 3)))), (1, 1, (.c (.int .i64 (.lit 4)))), (2, 1, (.c (.int .i64 (.lit 7)))), (3, 1, (.c (.int .i64 (.lit 8)))), (4, 1, (.c (.int .i64 (.lit 9))))]), none⟩, ⟨(some 10), (.call (.t 8) [(.t 9)]), none⟩, ⟨(some 11), (.p (.un .not (.t 10))), none⟩, ⟨(some 2), (.p (.mv (.t 11))), none⟩])
 (.seq (.reg [⟨(some 12), (.p (.mv (.t 6))), none⟩, ⟨(some 13), (.mkArr 1 5 [(.int .i64 (.lit 0))] [(0, 1, (.c (.int .i64 (.lit 0)))), (1, 1, (.c (.int .i64 (.lit 1)))), (2, 1, (.c (.int .i64 (.lit 7)))), (3, 1, (.c (.int .i64 (.lit 8)))), (4, 1, (.c (.int .i64 (.lit 11))))]), none⟩, ⟨(some 14), (.call (.t 12) [(.t 13)]), none⟩, ⟨(some 15), (.p (.un .not (.t 14))), none⟩, ⟨(some 3), (.p (.mv (.t 15))), none⟩])
 (.seq (.reg [⟨(some 16), (.p (.mv (.t 6))), none⟩, ⟨(some 17), (.mkArr 1 5 [(.int .i64 (.lit 0))] [(0, 1, (.c (.int .i64 (.lit 3)))), (1, 1, (.c (.int .i64 (.lit 4)))), (2, 1, (.c (.int .i64 (.lit 6)))), (3, 1, (.c (.int .i64 (.lit 9)))), (4, 1, (.c (.int .i64 (.lit 13))))]), none⟩, ⟨(some 18), (.call (.t 16) [(.t 17)]), none⟩, ⟨(some 4), (.p (.mv (.t 18))), none⟩])
 (.seq (.reg [⟨(some 19), (.p (.mv (.t 6))), none⟩, ⟨(some 20), (.mkArr 1 8 [(.int .i64 (.lit 0))] [(0, 1, (.c (.int .i64 (.lit 0)))), (1, 1, (.c (.int .i64 (.lit 1)))), (2, 1, (.c (.int .i64 (.lit 2)))), (3, 1, (.c (.int .i64 (.lit 3)))), (4, 1, (.c (.int .i64 (.lit 4)))), (5, 1, (.c (.int .i64 (.lit 5)))), (6, 1, (.c (.int .i64 (.lit 7)))), (7, 1, (.c (.int .i64 (.lit 11))))]), none⟩, ⟨(some 21), (.call (.t 19) [(.t 20)]), none⟩, ⟨(some 5), (.p (.mv (.t 21))), none⟩])
 (.seq (.reg [⟨(some 22), (.p (.mv (.t 2))), none⟩, ⟨(some 23), (.p (.mv (.t 3))), none⟩, ⟨(some 24), (.p (.mv (.t 4))), none⟩, ⟨(some 25), (.p (.mv (.t 5))), none⟩, ⟨(some 2), (.p (.mv (.t 22))), none⟩, ⟨(some 3), (.p (.mv (.t 23))), none⟩, ⟨(some 4), (.p (.mv (.t 24))), none⟩, ⟨(some 5), (.p (.mv (.t 25))), none⟩])
 .ret)))))))⟩
/- (corral/isa.row).imm -/
def af106 : AFunc := ⟨23, [.t 4],
 (.seq (.reg [⟨(some 2), (.box 7 (.t 0)), none⟩, ⟨(some 4), (.p (.mv (.c (.int .u32 (.lit 0))))), none⟩])
 (.seq (.seq (.reg [⟨(some 5), (.p (.fieldAddr 2 (.t 2))), none⟩, ⟨(some 6), (.load false 1 (.t 5)), none⟩])
 (.block 0 (.seq (.reg [⟨(some 8), (.p (.bin 0 .eql (.t 6) (.c (.int .i64 (.lit 5))))), none⟩, ⟨(some 7), (.p (.mv (.t 8))), none⟩])
 (.cond (.t 7) (.seq (.reg [⟨(some 9), (.p (.mv (.t 1))), none⟩, ⟨(some 10), (.call (.f 73) [(.t 9), (.c (.int .i64 (.lit 20))), (.c (.int .i64 (.lit 5)))]), none⟩, ⟨(some 4), (.p (.mv (.t 10))), none⟩])
 .ret)
 (.seq (.reg [⟨(some 12), (.p (.bin 0 .eql (.t 6) (.c (.int .i64 (.lit 7))))), none⟩, ⟨(some 11), (.p (.mv (.t 12))), none⟩])
 (.cond (.t 11) (.seq (.reg [⟨(some 13), (.p (.mv (.t 1))), none⟩, ⟨(some 14), (.call (.f 73) [(.t 13), (.c (.int .i64 (.lit 20))), (.c (.int .i64 (.lit 8)))]), none⟩, ⟨(some 4), (.p (.mv (.t 14))), none⟩])
 .ret)
 (.seq (.reg [⟨(some 16), (.p (.bin 0 .eql (.t 6) (.c (.int .i64 (.lit 11))))), none⟩, ⟨(some 15), (.p (.mv (.t 16))), none⟩])
 (.cond (.t 15) (.seq (.reg [⟨(some 17), (.p (.mv (.t 1))), none⟩, ⟨(some 18), (.call (.f 73) [(.t 17), (.c (.int .i64 (.lit 15))), (.c (.int .i64 (.lit 5)))]), none⟩, ⟨(some 4), (.p (.mv (.t 18))), none⟩])
 .ret)
 .skip))))))))
 (.seq (.reg [⟨(some 19), (.load true 7 (.t 2)), none⟩, ⟨(some 20), (.call (.f 124) [(.t 19)]), none⟩, ⟨(some 21), (.p (.mv (.t 1))), none⟩, ⟨(some 22), (.call (.f 123) [(.t 20), (.t 21)]), none⟩, ⟨(some 4), (.p (.mv (.t 22))), none⟩])
 .ret)))⟩
/- corral/corralref1.Bits -/
def af107 : AFunc := ⟨30, [.t 6],
 (.seq (.reg [⟨(some 6), (.p (.mv (.c (.int .u32 (.lit 0))))), none⟩])
 (.seq (.seq (.reg [⟨(some 7), (.p (.mv (.t 1))), none⟩, ⟨(some 8), (.p (.bin 0 .lss (.t 7) (.c (.int .i64 (.lit 0))))), none⟩, ⟨(some 9), (.p (.mv (.t 8))), none⟩, ⟨(some 10), (.p (.mv (.t 1))), (some (9, false))⟩, ⟨(some 11), (.p (.bin 0 .gtr (.t 10) (.c (.int .i64 (.lit 31))))), (some (9, false))⟩, ⟨(some 12), (.pick (.t 9) (.c (.bool (.lit true))) (.t 11)), none⟩, ⟨(some 13), (.p (.mv (.t 12))), none⟩, ⟨(some 14), (.p (.mv (.t 2))), (some (13, false))⟩, ⟨(some 15), (.p (.bin 0 .lss (.t 14) (.c (.int .i64 (.lit 1))))), (some (13, false))⟩, ⟨(some 16), (.pick (.t 13) (.c (.bool (.lit true))) (.t 15)), none⟩])
 (.cond (.t 16) (.seq (.reg [⟨(some 6), (.p (.mv (.c (.int .u32 (.lit 0))))), none⟩])
 .ret)
 .skip))
 (.seq (.reg [⟨(some 17), (.p (.mv (.t 0))), none⟩, ⟨(some 18), (.p (.mv (.t 1))), none⟩, ⟨(some 19), (.p (.conv .u64 (.t 18))), none⟩, ⟨(some 20), (.p (.bin 0 .shr (.t 17) (.t 19))), none⟩, ⟨(some 0), (.p (.mv (.t 20))), none⟩])
 (.seq (.seq (.reg [⟨(some 21), (.p (.mv (.t 2))), none⟩, ⟨(some 22), (.p (.bin 0 .geq (.t 21) (.c (.int .i64 (.lit 32))))), none⟩])
 (.cond (.t 22) (.seq (.reg [⟨(some 23), (.p (.mv (.t 0))), none⟩, ⟨(some 6), (.p (.mv (.t 23))), none⟩])
 .ret)
 .skip))
 (.seq (.reg [⟨(some 24), (.p (.mv (.t 0))), none⟩, ⟨(some 25), (.p (.mv (.t 2))), none⟩, ⟨(some 26), (.p (.conv .u64 (.t 25))), none⟩, ⟨(some 27), (.p (.bin 0 .shl (.c (.int .u32 (.lit 1))) (.t 26))), none⟩, ⟨(some 28), (.p (.bin 0 .sub (.t 27) (.c (.int .u32 (.lit 1))))), none⟩, ⟨(some 29), (.p (.bin 0 .and (.t 24) (.t 28))), none⟩, ⟨(some 6), (.p (.mv (.t 29))), none⟩])
 .ret)))))⟩
/- corral/corralref1.Sign -/
def af108 : AFunc := ⟨31, [.t 4],
 (.seq (.reg [⟨(some 4), (.p (.mv (.c (.int .u32 (.lit 0))))), none⟩])
 (.seq (.seq (.reg [⟨(some 6), (.p (.mv (.t 1))), none⟩, ⟨(some 7), (.p (.bin 0 .lss (.t 6) (.c (.int .i64 (.lit 1))))), none⟩])
 (.cond (.t 7) (.seq (.reg [⟨(some 4), (.p (.mv (.c (.int .u32 (.lit 0))))), none⟩])
 .ret)
 .skip))
 (.seq (.seq (.reg [⟨(some 8), (.p (.mv (.t 1))), none⟩, ⟨(some 9), (.p (.bin 0 .gtr (.t 8) (.c (.int .i64 (.lit 31))))), none⟩])
 (.cond (.t 9) (.seq (.reg [⟨(some 10), (.p (.mv (.t 0))), none⟩, ⟨(some 4), (.p (.mv (.t 10))), none⟩])
 .ret)
 .skip))
 (.seq (.reg [⟨(some 11), (.p (.mv (.t 0))), none⟩, ⟨(some 12), (.p (.mv (.t 1))), none⟩, ⟨(some 13), (.p (.conv .u64 (.t 12))), none⟩, ⟨(some 14), (.p (.bin 0 .shl (.c (.int .u32 (.lit 1))) (.t 13))), none⟩, ⟨(some 15), (.p (.bin 0 .sub (.t 14) (.c (.int .u32 (.lit 1))))), none⟩, ⟨(some 16), (.p (.bin 0 .and (.t 11) (.t 15))), none⟩, ⟨(some 5), (.p (.mv (.t 16))), none⟩])
 (.seq (.seq (.reg [⟨(some 17), (.p (.mv (.t 5))), none⟩, ⟨(some 18), (.p (.mv (.t 1))), none⟩, ⟨(some 19), (.p (.bin 0 .sub (.t 18) (.c (.int .i64 (.lit 1))))), none⟩, ⟨(some 20), (.p (.conv .u64 (.t 19))), none⟩, ⟨(some 21), (.p (.bin 0 .shr (.t 17) (.t 20))), none⟩, ⟨(some 22), (.p (.bin 0 .eql (.t 21) (.c (.int .u32 (.lit 1))))), none⟩])
 (.cond (.t 22) (.seq (.reg [⟨(some 23), (.p (.mv (.t 5))), none⟩, ⟨(some 24), (.p (.mv (.t 1))), none⟩, ⟨(some 25), (.p (.conv .u64 (.t 24))), none⟩, ⟨(some 26), (.p (.bin 0 .shl (.c (.int .u32 (.lit 1))) (.t 25))), none⟩, ⟨(some 27), (.p (.bin 0 .sub (.t 26) (.c (.int .u32 (.lit 1))))), none⟩, ⟨(some 28), (.p (.un .xor (.t 27))), none⟩, ⟨(some 29), (.p (.bin 0 .or (.t 23) (.t 28))), none⟩, ⟨(some 4), (.p (.mv (.t 29))), none⟩])
 .ret)
 .skip))
 (.seq (.reg [⟨(some 30), (.p (.mv (.t 5))), none⟩, ⟨(some 4), (.p (.mv (.t 30))), none⟩])
 .ret))))))⟩
/- corral/walk.next -/
def af109 : AFunc := ⟨106, [.cell 12 true 5, .t 13],
 (.seq (.reg [⟨(some 12), (.newC [(.int .i64 (.lit 0)), (.int .u32 (.lit 0)), (.int .u32 (.lit 0)), (.int .u32 (.lit 0)), (.int .u32 (.lit 0))]), none⟩, ⟨(some 13), (.p (.mv (.c (.int .i64 (.lit 0))))), none⟩])
 (.seq (.seq (.reg [⟨(some 20), (.p (.mv (.t 0))), none⟩, ⟨(some 21), (.p (.mv (.t 1))), none⟩, ⟨(some 22), (.call (.f 125) [(.t 20), (.t 21)]), none⟩, ⟨(some 23), (.p (.bin 0 .eql (.t 22) (.c (.int .i64 (.lit 0))))), none⟩])
 (.cond (.t 23) (.seq (.reg [⟨(some 24), (.p (.mv (.t 2))), none⟩, ⟨(some 25), (.p (.build [(.int .i64 (.lit 0)), (.int .u32 (.lit 0)), (.int .u32 (.lit 0)), (.int .u32 (.lit 0)), (.int .u32 (.lit 0))] [(0, 1, (.c (.int .i64 (.lit 1)))), (1, 1, (.t 24))])), none⟩, ⟨none, (.store 5 (.t 12) (.t 25)), none⟩, ⟨(some 13), (.p (.mv (.c (.int .i64 (.lit 0))))), none⟩])
 .ret)
 .skip))
 (.seq (.reg [⟨(some 26), (.p (.mv (.t 0))), none⟩, ⟨(some 27), (.call (.f 73) [(.t 26), (.c (.int .i64 (.lit 0))), (.c (.int .i64 (.lit 22)))]), none⟩, ⟨(some 14), (.p (.mv (.t 27))), none⟩])
 (.seq (.seq (.reg [⟨(some 15), (.p (.mv (.c (.int .i64 (.lit 1))))), none⟩])
 (.block 0 (.loop (.seq (.seq (.reg [⟨(some 28), (.p (.mv (.t 15))), none⟩, ⟨(some 29), (.p (.bin 0 .geq (.t 28) (.c (.int .i64 (.lit 0))))), none⟩])
 (.cond (.t 29) .skip
 (.exit 0)))
 (.seq (.block 1 (.seq (.reg [⟨(some 32), (.p (.mv (.t 15))), none⟩, ⟨(some 33), (.p (.bin 0 .sub (.c (.int .i64 (.lit 1))) (.t 32))), none⟩, ⟨(some 16), (.p (.mv (.t 33))), none⟩])
 (.seq (.reg [⟨(some 34), (.p (.mv (.t 15))), none⟩, ⟨(some 35), (.p (.bin 0 .mul (.c (.int .i64 (.lit 10))) (.t 34))), none⟩, ⟨(some 36), (.p (.bin 0 .add (.c (.int .i64 (.lit 12))) (.t 35))), none⟩, ⟨(some 17), (.p (.mv (.t 36))), none⟩])
 (.seq (.reg [⟨(some 37), (.p (.mv (.t 14))), none⟩, ⟨(some 38), (.p (.conv .u64 (.t 37))), none⟩, ⟨(some 39), (.p (.bin 0 .shl (.t 38) (.c (.int .u64 (.lit 12))))), none⟩, ⟨(some 40), (.p (.mv (.t 2))), none⟩, ⟨(some 41), (.p (.mv (.t 17))), none⟩, ⟨(some 42), (.call (.f 73) [(.t 40), (.t 41), (.c (.int .i64 (.lit 10)))]), none⟩, ⟨(some 43), (.p (.conv .u64 (.t 42))), none⟩, ⟨(some 44), (.p (.bin 0 .mul (.c (.int .u64 (.lit 4))) (.t 43))), none⟩, ⟨(some 45), (.p (.bin 0 .add (.t 39) (.t 44))), none⟩, ⟨(some 18), (.p (.mv (.t 45))), none⟩])
 (.seq (.seq (.reg [⟨(some 46), (.p (.mv (.t 18))), none⟩, ⟨(some 47), (.p (.bin 0 .shr (.t 46) (.c (.int .u64 (.lit 32))))), none⟩, ⟨(some 48), (.p (.bin 0 .neq (.t 47) (.c (.int .u64 (.lit 0))))), none⟩, ⟨(some 49), (.p (.mv (.t 48))), none⟩, ⟨(some 50), (.p (.mv (.t 18))), (some (49, false))⟩, ⟨(some 51), (.p (.bin 0 .add (.t 50) (.c (.int .u64 (.lit 4))))), (some (49, false))⟩, ⟨(some 52), (.p (.mv (.t 4))), (some (49, false))⟩, ⟨(some 53), (.p (.mx (.t 52) (.c (.int .i64 (.lit 0))))), (some (49, false))⟩, ⟨(some 54), (.p (.conv .u64 (.t 53))), (some (49, false))⟩, ⟨(some 55), (.p (.bin 0 .gtr (.t 51) (.t 54))), (some (49, false))⟩, ⟨(some 56), (.pick (.t 49) (.c (.bool (.lit true))) (.t 55)), none⟩])
 (.cond (.t 56) (.seq (.reg [⟨(some 57), (.p (.mv (.t 3))), none⟩, ⟨(some 58), (.call (.f 110) [(.t 57), (.c (.bool (.lit false)))]), none⟩, ⟨(some 59), (.p (.mv (.t 16))), none⟩, ⟨none, (.store 5 (.t 12) (.t 58)), none⟩, ⟨(some 13), (.p (.mv (.t 59))), none⟩])
 .ret)
 .skip))
 (.seq (.seq (.reg [⟨(some 60), (.p (.mv (.t 16))), none⟩, ⟨(some 61), (.p (.mv (.t 5))), none⟩, ⟨(some 62), (.p (.lenS (.t 61))), none⟩, ⟨(some 63), (.p (.bin 0 .eql (.t 60) (.t 62))), none⟩])
 (.cond (.t 63) (.seq (.reg [⟨(some 64), (.p (.mv (.t 18))), none⟩, ⟨(some 65), (.p (.conv .u32 (.t 64))), none⟩, ⟨(some 66), (.p (.build [(.int .i64 (.lit 0)), (.int .u32 (.lit 0)), (.int .u32 (.lit 0)), (.int .u32 (.lit 0)), (.int .u32 (.lit 0))] [(0, 1, (.c (.int .i64 (.lit 3)))), (2, 1, (.t 65))])), none⟩, ⟨(some 67), (.p (.mv (.t 16))), none⟩, ⟨none, (.store 5 (.t 12) (.t 66)), none⟩, ⟨(some 13), (.p (.mv (.t 67))), none⟩])
 .ret)
 .skip))
 (.seq (.reg [⟨(some 68), (.p (.mv (.t 5))), none⟩, ⟨(some 69), (.p (.mv (.t 16))), none⟩, ⟨(some 70), (.p (.idxSl 5 (.t 68) (.t 69))), none⟩, ⟨(some 71), (.p (.fieldAddr 1 (.t 70))), none⟩, ⟨(some 72), (.load false 1 (.t 71)), none⟩, ⟨(some 19), (.p (.mv (.t 72))), none⟩])
 (.seq (.seq (.reg [⟨(some 73), (.p (.mv (.t 5))), none⟩, ⟨(some 74), (.p (.mv (.t 16))), none⟩, ⟨(some 75), (.p (.idxSl 5 (.t 73) (.t 74))), none⟩, ⟨(some 76), (.p (.fieldAddr 0 (.t 75))), none⟩, ⟨(some 77), (.load false 1 (.t 76)), none⟩, ⟨(some 78), (.p (.mv (.t 18))), none⟩, ⟨(some 79), (.p (.conv .u32 (.t 78))), none⟩, ⟨(some 80), (.p (.bin 0 .neq (.t 77) (.t 79))), none⟩, ⟨(some 81), (.p (.mv (.t 80))), none⟩, ⟨(some 82), (.p (.mv (.t 19))), (some (81, false))⟩, ⟨(some 83), (.call (.f 126) [(.t 82)]), (some (81, false))⟩, ⟨(some 84), (.pick (.t 81) (.c (.bool (.lit true))) (.t 83)), none⟩])
 (.cond (.t 84) (.seq (.reg [⟨(some 85), (.p (.mv (.t 3))), none⟩, ⟨(some 86), (.call (.f 110) [(.t 85), (.c (.bool (.lit true)))]), none⟩, ⟨(some 87), (.p (.mv (.t 16))), none⟩, ⟨(some 88), (.p (.bin 0 .add (.t 87) (.c (.int .i64 (.lit 1))))), none⟩, ⟨none, (.store 5 (.t 12) (.t 86)), none⟩, ⟨(some 13), (.p (.mv (.t 88))), none⟩])
 .ret)
 .skip))
 (.seq (.seq (.reg [⟨(some 89), (.p (.mv (.t 19))), none⟩, ⟨(some 90), (.call (.f 127) [(.t 89)]), none⟩, ⟨(some 91), (.p (.un .not (.t 90))), none⟩])
 (.cond (.t 91) (.seq (.reg [⟨(some 92), (.p (.mv (.t 19))), none⟩, ⟨(some 93), (.call (.f 128) [(.t 92)]), none⟩, ⟨(some 14), (.p (.mv (.t 93))), none⟩])
 (.exit 1))
 .skip))
 (.seq (.reg [⟨(some 94), (.p (.mv (.t 19))), none⟩, ⟨(some 95), (.p (.mv (.t 18))), none⟩, ⟨(some 96), (.p (.conv .u32 (.t 95))), none⟩, ⟨(some 97), (.p (.mv (.t 1))), none⟩, ⟨(some 98), (.p (.mv (.t 2))), none⟩, ⟨(some 99), (.p (.mv (.t 3))), none⟩, ⟨(some 100), (.p (.mv (.t 15))), none⟩, ⟨(some 101), (.call (.f 129) [(.t 94), (.t 96), (.t 97), (.t 98), (.t 99), (.t 100)]), none⟩, ⟨(some 102), (.p (.mv (.t 16))), none⟩, ⟨(some 103), (.p (.bin 0 .add (.t 102) (.c (.int .i64 (.lit 1))))), none⟩, ⟨none, (.store 5 (.t 12) (.t 101)), none⟩, ⟨(some 13), (.p (.mv (.t 103))), none⟩])
 .ret))))))))))
 (.reg [⟨(some 30), (.p (.mv (.t 15))), none⟩, ⟨(some 31), (.p (.bin 0 .sub (.t 30) (.c (.int .i64 (.lit 1))))), none⟩, ⟨(some 15), (.p (.mv (.t 31))), none⟩]))))))
 (.seq (.reg [⟨(some 104), (.p (.mv (.t 3))), none⟩, ⟨(some 105), (.call (.f 110) [(.t 104), (.c (.bool (.lit true)))]), none⟩, ⟨none, (.store 5 (.t 12) (.t 105)), none⟩, ⟨(some 13), (.p (.mv (.c (.int .i64 (.lit 2))))), none⟩])
 .ret)))))⟩
/- corral/walk.fault -/
def af110 : AFunc := ⟨9, [.cell 4 true 5],
 (.seq (.reg [⟨(some 4), (.newC [(.int .i64 (.lit 0)), (.int .u32 (.lit 0)), (.int .u32 (.lit 0)), (.int .u32 (.lit 0)), (.int .u32 (.lit 0))]), none⟩])
 (.seq (.reg [⟨(some 5), (.p (.mv (.t 0))), none⟩, ⟨(some 6), (.p (.mv (.t 1))), none⟩, ⟨(some 7), (.call (.f 130) [(.t 5), (.t 6)]), none⟩, ⟨(some 8), (.p (.build [(.int .i64 (.lit 0)), (.int .u32 (.lit 0)), (.int .u32 (.lit 0)), (.int .u32 (.lit 0)), (.int .u32 (.lit 0))] [(0, 1, (.c (.int .i64 (.lit 2)))), (4, 1, (.t 7))])), none⟩, ⟨none, (.store 5 (.t 4) (.t 8)), none⟩])
 .ret))⟩
/- corral/word.Less -/
def af111 : AFunc := ⟨16, [.t 6],
 (.seq (.reg [⟨(some 6), (.p (.mv (.c (.bool (.lit false))))), none⟩])
 (.seq (.seq (.reg [⟨(some 7), (.p (.mv (.t 2))), none⟩])
 (.cond (.t 7) (.seq (.reg [⟨(some 8), (.p (.mv (.t 0))), none⟩, ⟨(some 9), (.p (.conv .i32 (.t 8))), none⟩, ⟨(some 10), (.p (.mv (.t 1))), none⟩, ⟨(some 11), (.p (.conv .i32 (.t 10))), none⟩, ⟨(some 12), (.p (.bin 0 .lss (.t 9) (.t 11))), none⟩, ⟨(some 6), (.p (.mv (.t 12))), none⟩])
 .ret)
 .skip))
 (.seq (.reg [⟨(some 13), (.p (.mv (.t 0))), none⟩, ⟨(some 14), (.p (.mv (.t 1))), none⟩, ⟨(some 15), (.p (.bin 0 .lss (.t 13) (.t 14))), none⟩, ⟨(some 6), (.p (.mv (.t 15))), none⟩])
 .ret)))⟩
/- corral/word.Left -/
def af112 : AFunc := ⟨9, [.t 4],
 (.seq (.reg [⟨(some 4), (.p (.mv (.c (.int .u32 (.lit 0))))), none⟩])
 (.seq (.reg [⟨(some 5), (.p (.mv (.t 0))), none⟩, ⟨(some 6), (.p (.mv (.t 1))), none⟩, ⟨(some 7), (.p (.bin 0 .and (.t 6) (.c (.int .i64 (.lit 31))))), none⟩, ⟨(some 8), (.p (.bin 0 .shl (.t 5) (.t 7))), none⟩, ⟨(some 4), (.p (.mv (.t 8))), none⟩])
 .ret))⟩
/- corral/alu.truth -/
def af113 : AFunc := ⟨4, [.t 2],
 (.seq (.reg [⟨(some 2), (.p (.mv (.c (.int .u32 (.lit 0))))), none⟩])
 (.seq (.seq (.reg [⟨(some 3), (.p (.mv (.t 0))), none⟩])
 (.cond (.t 3) (.seq (.reg [⟨(some 2), (.p (.mv (.c (.int .u32 (.lit 1))))), none⟩])
 .ret)
 .skip))
 (.seq (.reg [⟨(some 2), (.p (.mv (.c (.int .u32 (.lit 0))))), none⟩])
 .ret)))⟩
/- corral/word.Right -/
def af114 : AFunc := ⟨18, [.t 6],
 (.seq (.reg [⟨(some 6), (.p (.mv (.c (.int .u32 (.lit 0))))), none⟩])
 (.seq (.seq (.reg [⟨(some 7), (.p (.mv (.t 2))), none⟩])
 (.cond (.t 7) (.seq (.reg [⟨(some 8), (.p (.mv (.t 0))), none⟩, ⟨(some 9), (.p (.conv .i32 (.t 8))), none⟩, ⟨(some 10), (.p (.mv (.t 1))), none⟩, ⟨(some 11), (.p (.bin 0 .and (.t 10) (.c (.int .i64 (.lit 31))))), none⟩, ⟨(some 12), (.p (.bin 0 .shr (.t 9) (.t 11))), none⟩, ⟨(some 13), (.p (.conv .u32 (.t 12))), none⟩, ⟨(some 6), (.p (.mv (.t 13))), none⟩])
 .ret)
 .skip))
 (.seq (.reg [⟨(some 14), (.p (.mv (.t 0))), none⟩, ⟨(some 15), (.p (.mv (.t 1))), none⟩, ⟨(some 16), (.p (.bin 0 .and (.t 15) (.c (.int .i64 (.lit 31))))), none⟩, ⟨(some 17), (.p (.bin 0 .shr (.t 14) (.t 16))), none⟩, ⟨(some 6), (.p (.mv (.t 17))), none⟩])
 .ret)))⟩
/- corral/word.High -/
def af115 : AFunc := ⟨18, [.t 8],
 (.seq (.reg [⟨(some 8), (.p (.mv (.c (.int .u32 (.lit 0))))), none⟩])
 (.seq (.reg [⟨(some 9), (.p (.mv (.t 0))), none⟩, ⟨(some 10), (.p (.mv (.t 2))), none⟩, ⟨(some 11), (.call (.f 131) [(.t 9), (.t 10)]), none⟩, ⟨(some 12), (.p (.mv (.t 1))), none⟩, ⟨(some 13), (.p (.mv (.t 3))), none⟩, ⟨(some 14), (.call (.f 131) [(.t 12), (.t 13)]), none⟩, ⟨(some 15), (.p (.bin 0 .mul (.t 11) (.t 14))), none⟩, ⟨(some 16), (.p (.bin 0 .shr (.t 15) (.c (.int .u64 (.lit 32))))), none⟩, ⟨(some 17), (.p (.conv .u32 (.t 16))), none⟩, ⟨(some 8), (.p (.mv (.t 17))), none⟩])
 .ret))⟩
/- corral/word.Div -/
def af116 : AFunc := ⟨29, [.t 6],
 (.seq (.reg [⟨(some 6), (.p (.mv (.c (.int .u32 (.lit 0))))), none⟩])
 (.seq (.block 0 (.seq (.reg [⟨(some 8), (.p (.mv (.t 1))), none⟩, ⟨(some 9), (.p (.bin 0 .eql (.t 8) (.c (.int .u32 (.lit 0))))), none⟩, ⟨(some 7), (.p (.mv (.t 9))), none⟩])
 (.cond (.t 7) (.seq (.reg [⟨(some 6), (.p (.mv (.c (.int .u32 (.lit 4294967295))))), none⟩])
 .ret)
 (.seq (.reg [⟨(some 11), (.p (.mv (.t 2))), none⟩, ⟨(some 12), (.p (.mv (.t 11))), none⟩, ⟨(some 13), (.p (.mv (.t 1))), (some (12, true))⟩, ⟨(some 14), (.p (.bin 0 .eql (.t 13) (.c (.int .u32 (.lit 4294967295))))), (some (12, true))⟩, ⟨(some 15), (.pick (.t 12) (.t 14) (.c (.bool (.lit false)))), none⟩, ⟨(some 10), (.p (.mv (.t 15))), none⟩])
 (.cond (.t 10) (.seq (.reg [⟨(some 16), (.p (.mv (.t 0))), none⟩, ⟨(some 17), (.p (.un .neg (.t 16))), none⟩, ⟨(some 6), (.p (.mv (.t 17))), none⟩])
 .ret)
 (.seq (.reg [⟨(some 19), (.p (.mv (.t 2))), none⟩, ⟨(some 18), (.p (.mv (.t 19))), none⟩])
 (.cond (.t 18) (.seq (.reg [⟨(some 20), (.p (.mv (.t 0))), none⟩, ⟨(some 21), (.p (.conv .i32 (.t 20))), none⟩, ⟨(some 22), (.p (.mv (.t 1))), none⟩, ⟨(some 23), (.p (.conv .i32 (.t 22))), none⟩, ⟨(some 24), (.p (.bin 0 .quo (.t 21) (.t 23))), none⟩, ⟨(some 25), (.p (.conv .u32 (.t 24))), none⟩, ⟨(some 6), (.p (.mv (.t 25))), none⟩])
 .ret)
 .skip)))))))
 (.seq (.reg [⟨(some 26), (.p (.mv (.t 0))), none⟩, ⟨(some 27), (.p (.mv (.t 1))), none⟩, ⟨(some 28), (.p (.bin 0 .quo (.t 26) (.t 27))), none⟩, ⟨(some 6), (.p (.mv (.t 28))), none⟩])
 .ret)))⟩
/- corral/word.Rem -/
def af117 : AFunc := ⟨28, [.t 6],
 (.seq (.reg [⟨(some 6), (.p (.mv (.c (.int .u32 (.lit 0))))), none⟩])
 (.seq (.block 0 (.seq (.reg [⟨(some 8), (.p (.mv (.t 1))), none⟩, ⟨(some 9), (.p (.bin 0 .eql (.t 8) (.c (.int .u32 (.lit 0))))), none⟩, ⟨(some 7), (.p (.mv (.t 9))), none⟩])
 (.cond (.t 7) (.seq (.reg [⟨(some 10), (.p (.mv (.t 0))), none⟩, ⟨(some 6), (.p (.mv (.t 10))), none⟩])
 .ret)
 (.seq (.reg [⟨(some 12), (.p (.mv (.t 2))), none⟩, ⟨(some 13), (.p (.mv (.t 12))), none⟩, ⟨(some 14), (.p (.mv (.t 1))), (some (13, true))⟩, ⟨(some 15), (.p (.bin 0 .eql (.t 14) (.c (.int .u32 (.lit 4294967295))))), (some (13, true))⟩, ⟨(some 16), (.pick (.t 13) (.t 15) (.c (.bool (.lit false)))), none⟩, ⟨(some 11), (.p (.mv (.t 16))), none⟩])
 (.cond (.t 11) (.seq (.reg [⟨(some 6), (.p (.mv (.c (.int .u32 (.lit 0))))), none⟩])
 .ret)
 (.seq (.reg [⟨(some 18), (.p (.mv (.t 2))), none⟩, ⟨(some 17), (.p (.mv (.t 18))), none⟩])
 (.cond (.t 17) (.seq (.reg [⟨(some 19), (.p (.mv (.t 0))), none⟩, ⟨(some 20), (.p (.conv .i32 (.t 19))), none⟩, ⟨(some 21), (.p (.mv (.t 1))), none⟩, ⟨(some 22), (.p (.conv .i32 (.t 21))), none⟩, ⟨(some 23), (.p (.bin 0 .rem (.t 20) (.t 22))), none⟩, ⟨(some 24), (.p (.conv .u32 (.t 23))), none⟩, ⟨(some 6), (.p (.mv (.t 24))), none⟩])
 .ret)
 .skip)))))))
 (.seq (.reg [⟨(some 25), (.p (.mv (.t 0))), none⟩, ⟨(some 26), (.p (.mv (.t 1))), none⟩, ⟨(some 27), (.p (.bin 0 .rem (.t 25) (.t 26))), none⟩, ⟨(some 6), (.p (.mv (.t 27))), none⟩])
 .ret)))⟩
/- corral/alu.loads -/
def af118 : AFunc := ⟨16, [.t 2],
 (.seq (.reg [⟨(some 2), (.p (.mv (.c (.bool (.lit false))))), none⟩])
 (.seq (.reg [⟨(some 4), (.p (.mv (.t 0))), none⟩, ⟨(some 5), (.call (.f 78) [(.t 4)]), none⟩, ⟨(some 3), (.p (.mv (.t 5))), none⟩])
 (.seq (.reg [⟨(some 6), (.p (.mv (.t 3))), none⟩, ⟨(some 7), (.p (.bin 0 .eql (.t 6) (.c (.int .i64 (.lit 4))))), none⟩, ⟨(some 8), (.p (.mv (.t 7))), none⟩, ⟨(some 9), (.p (.mv (.t 3))), (some (8, false))⟩, ⟨(some 10), (.p (.bin 0 .eql (.t 9) (.c (.int .i64 (.lit 6))))), (some (8, false))⟩, ⟨(some 11), (.p (.mv (.t 10))), (some (8, false))⟩, ⟨(some 12), (.p (.mv (.t 0))), (some (11, true))⟩, ⟨(some 13), (.p (.bin 0 .neq (.t 12) (.c (.int .i64 (.lit 60))))), (some (11, true))⟩, ⟨(some 14), (.pick (.t 11) (.t 13) (.c (.bool (.lit false)))), (some (8, false))⟩, ⟨(some 15), (.pick (.t 8) (.c (.bool (.lit true))) (.t 14)), none⟩, ⟨(some 2), (.p (.mv (.t 15))), none⟩])
 .ret)))⟩
/- corral/word.Sign -/
def af119 : AFunc := ⟨21, [.t 4],
 (.seq (.reg [⟨(some 4), (.p (.mv (.c (.int .u32 (.lit 0))))), none⟩])
 (.seq (.block 0 (.seq (.reg [⟨(some 6), (.p (.mv (.t 1))), none⟩, ⟨(some 7), (.p (.bin 0 .lss (.t 6) (.c (.int .i64 (.lit 1))))), none⟩, ⟨(some 5), (.p (.mv (.t 7))), none⟩])
 (.cond (.t 5) (.seq (.reg [⟨(some 4), (.p (.mv (.c (.int .u32 (.lit 0))))), none⟩])
 .ret)
 (.seq (.reg [⟨(some 9), (.p (.mv (.t 1))), none⟩, ⟨(some 10), (.p (.bin 0 .geq (.t 9) (.c (.int .i64 (.lit 32))))), none⟩, ⟨(some 8), (.p (.mv (.t 10))), none⟩])
 (.cond (.t 8) (.seq (.reg [⟨(some 11), (.p (.mv (.t 0))), none⟩, ⟨(some 4), (.p (.mv (.t 11))), none⟩])
 .ret)
 .skip)))))
 (.seq (.reg [⟨(some 12), (.p (.mv (.t 0))), none⟩, ⟨(some 13), (.p (.mv (.t 1))), none⟩, ⟨(some 14), (.p (.bin 0 .sub (.c (.int .i64 (.lit 32))) (.t 13))), none⟩, ⟨(some 15), (.p (.bin 0 .shl (.t 12) (.t 14))), none⟩, ⟨(some 16), (.p (.conv .i32 (.t 15))), none⟩, ⟨(some 17), (.p (.mv (.t 1))), none⟩, ⟨(some 18), (.p (.bin 0 .sub (.c (.int .i64 (.lit 32))) (.t 17))), none⟩, ⟨(some 19), (.p (.bin 0 .shr (.t 16) (.t 18))), none⟩, ⟨(some 20), (.p (.conv .u32 (.t 19))), none⟩, ⟨(some 4), (.p (.mv (.t 20))), none⟩])
 .ret)))⟩
/- corral/alu.Amo$1 -/
def af120 : AFunc := ⟨9, [.t 4, .t 5],
 (.seq (.reg [⟨(some 4), (.p (.mv (.c (.int .u32 (.lit 0))))), none⟩, ⟨(some 5), (.p (.mv (.c (.bool (.lit false))))), none⟩])
 (.seq (.seq (.reg [⟨(some 6), (.p (.mv (.t 0))), none⟩])
 (.cond (.t 6) (.seq (.reg [⟨(some 7), (.load false 1 (.t 1)), none⟩, ⟨(some 4), (.p (.mv (.t 7))), none⟩, ⟨(some 5), (.p (.mv (.c (.bool (.lit true))))), none⟩])
 .ret)
 .skip))
 (.seq (.reg [⟨(some 8), (.load false 1 (.t 2)), none⟩, ⟨(some 4), (.p (.mv (.t 8))), none⟩, ⟨(some 5), (.p (.mv (.c (.bool (.lit true))))), none⟩])
 .ret)))⟩
/- (corral/isa.row).uses$1 -/
def af121 : AFunc := ⟨8, [.t 3],
 (.seq (.reg [⟨(some 3), (.p (.mv (.c (.bool (.lit false))))), none⟩])
 (.seq (.reg [⟨(some 4), (.p (.mv (.t 0))), none⟩, ⟨(some 5), (.p (.fieldAddr 2 (.t 1))), none⟩, ⟨(some 6), (.load false 1 (.t 5)), none⟩, ⟨(some 7), (.call (.f 122) [(.t 4), (.t 6)]), none⟩, ⟨(some 3), (.p (.mv (.t 7))), none⟩])
 .ret))⟩
/- slices.Contains[[]int,int] -/
def af122 : AFunc := ⟨9, [.t 4],
 (.seq (.reg [⟨(some 4), (.p (.mv (.c (.bool (.lit false))))), none⟩])
 (.seq (.reg [⟨(some 5), (.p (.mv (.t 0))), none⟩, ⟨(some 6), (.p (.mv (.t 1))), none⟩, ⟨(some 7), (.call (.f 132) [(.t 5), (.t 6)]), none⟩, ⟨(some 8), (.p (.bin 0 .geq (.t 7) (.c (.int .i64 (.lit 0))))), none⟩, ⟨(some 4), (.p (.mv (.t 8))), none⟩])
 .ret))⟩
/- corral/enc.Imm -/
def af123 : AFunc := ⟨36, [.t 4],
 (.seq (.reg [⟨(some 4), (.p (.mv (.c (.int .u32 (.lit 0))))), none⟩])
 (.seq (.reg [⟨(some 11), (.p (.mv (.t 0))), none⟩, ⟨(some 12), (.call (.f 133) [(.t 11)]), none⟩, ⟨(some 10), (.p (.mv (.t 12))), none⟩, ⟨(some 13), (.p (.extract 0 (.t 10))), none⟩, ⟨(some 14), (.p (.extract 1 (.t 10))), none⟩, ⟨(some 5), (.p (.mv (.t 13))), none⟩, ⟨(some 6), (.p (.mv (.t 14))), none⟩])
 (.seq (.reg [⟨(some 7), (.p (.mv (.c (.int .u32 (.lit 0))))), none⟩])
 (.seq (.seq (.reg [⟨(some 15), (.p (.mv (.t 5))), none⟩, ⟨(some 16), (.p (.lenS (.t 15))), none⟩, ⟨(some 17), (.p (.mv (.c (.int .i64 (.lit 0))))), none⟩])
 (.block 0 (.loop (.seq (.reg [⟨(some 18), (.p (.bin 0 .lss (.t 17) (.t 16))), none⟩])
 (.seq (.cond (.t 18) .skip
 (.exit 0))
 (.seq (.block 1 (.seq (.reg [⟨(some 19), (.p (.idxSl 3 (.t 15) (.t 17))), none⟩, ⟨(some 20), (.load true 3 (.t 19)), none⟩, ⟨(some 9), (.newC [(.int .i64 (.lit 0)), (.int .i64 (.lit 0)), (.int .i64 (.lit 0))]), none⟩, ⟨none, (.store 3 (.t 9) (.t 20)), none⟩])
 (.draw [(⟨(some 21), (.p (.mv (.t 7))), none⟩, []), (⟨(some 22), (.p (.mv (.t 1))), none⟩, []), (⟨(some 23), (.p (.fieldAddr 0 (.t 9))), none⟩, []), (⟨(some 24), (.load false 1 (.t 23)), none⟩, []), (⟨(some 25), (.p (.fieldAddr 1 (.t 9))), none⟩, []), (⟨(some 26), (.load false 1 (.t 25)), none⟩, []), (⟨(some 27), (.call (.f 73) [(.t 22), (.t 24), (.t 26)]), none⟩, []), (⟨(some 28), (.p (.fieldAddr 2 (.t 9))), none⟩, []), (⟨(some 29), (.load false 1 (.t 28)), none⟩, [6]), (⟨(some 30), (.p (.bin 0 .shl (.t 27) (.t 29))), none⟩, []), (⟨(some 31), (.p (.bin 0 .or (.t 21) (.t 30))), none⟩, []), (⟨(some 7), (.p (.mv (.t 31))), none⟩, [])])))
 (.reg [⟨(some 32), (.p (.bin 0 .add (.t 17) (.c (.int .i64 (.lit 1))))), none⟩, ⟨(some 17), (.p (.mv (.t 32))), none⟩])))))))
 (.seq (.reg [⟨(some 33), (.p (.mv (.t 7))), none⟩, ⟨(some 34), (.p (.mv (.t 6))), none⟩, ⟨(some 35), (.call (.f 119) [(.t 33), (.t 34)]), none⟩, ⟨(some 4), (.p (.mv (.t 35))), none⟩])
 .ret)))))⟩
/- (corral/isa.row).format -/
def af124 : AFunc := ⟨15, [.t 2],
 (.seq (.reg [⟨(some 1), (.box 7 (.t 0)), none⟩, ⟨(some 2), (.p (.mv (.c (.int .u8 (.lit 0))))), none⟩])
 (.seq (.seq (.reg [⟨(some 3), (.p (.fieldAddr 2 (.t 1))), none⟩, ⟨(some 4), (.load false 1 (.t 3)), none⟩])
 (.block 0 (.seq (.reg [⟨(some 6), (.p (.bin 0 .eql (.t 4) (.c (.int .i64 (.lit 0))))), none⟩, ⟨(some 5), (.p (.mv (.t 6))), none⟩])
 (.cond (.t 5) (.seq (.reg [⟨(some 2), (.p (.mv (.c (.int .u8 (.lit 85))))), none⟩])
 .ret)
 (.seq (.reg [⟨(some 8), (.p (.bin 0 .eql (.t 4) (.c (.int .i64 (.lit 1))))), none⟩, ⟨(some 7), (.p (.mv (.t 8))), none⟩])
 (.cond (.t 7) (.seq (.reg [⟨(some 2), (.p (.mv (.c (.int .u8 (.lit 74))))), none⟩])
 .ret)
 (.seq (.reg [⟨(some 10), (.p (.bin 0 .eql (.t 4) (.c (.int .i64 (.lit 2))))), none⟩, ⟨(some 9), (.p (.mv (.t 10))), none⟩])
 (.cond (.t 9) (.seq (.reg [⟨(some 2), (.p (.mv (.c (.int .u8 (.lit 73))))), none⟩])
 .ret)
 (.seq (.reg [⟨(some 12), (.p (.bin 0 .eql (.t 4) (.c (.int .i64 (.lit 3))))), none⟩, ⟨(some 11), (.p (.mv (.t 12))), none⟩])
 (.cond (.t 11) (.seq (.reg [⟨(some 2), (.p (.mv (.c (.int .u8 (.lit 66))))), none⟩])
 .ret)
 (.seq (.reg [⟨(some 14), (.p (.bin 0 .eql (.t 4) (.c (.int .i64 (.lit 4))))), none⟩, ⟨(some 13), (.p (.mv (.t 14))), none⟩])
 (.cond (.t 13) (.seq (.reg [⟨(some 2), (.p (.mv (.c (.int .u8 (.lit 83))))), none⟩])
 .ret)
 .skip))))))))))))
 (.seq (.reg [⟨(some 2), (.p (.mv (.c (.int .u8 (.lit 0))))), none⟩])
 .ret)))⟩
/- corral/walk.Entries -/
def af125 : AFunc := ⟨12, [.t 4],
 (.seq (.reg [⟨(some 4), (.p (.mv (.c (.int .i64 (.lit 0))))), none⟩])
 (.seq (.seq (.reg [⟨(some 5), (.p (.mv (.t 1))), none⟩, ⟨(some 6), (.p (.bin 0 .eql (.t 5) (.c (.int .i64 (.lit 3))))), none⟩, ⟨(some 7), (.p (.mv (.t 6))), none⟩, ⟨(some 8), (.p (.mv (.t 0))), (some (7, false))⟩, ⟨(some 9), (.call (.f 73) [(.t 8), (.c (.int .i64 (.lit 31))), (.c (.int .i64 (.lit 1)))]), (some (7, false))⟩, ⟨(some 10), (.p (.bin 0 .eql (.t 9) (.c (.int .u32 (.lit 0))))), (some (7, false))⟩, ⟨(some 11), (.pick (.t 7) (.c (.bool (.lit true))) (.t 10)), none⟩])
 (.cond (.t 11) (.seq (.reg [⟨(some 4), (.p (.mv (.c (.int .i64 (.lit 0))))), none⟩])
 .ret)
 .skip))
 (.seq (.reg [⟨(some 4), (.p (.mv (.c (.int .i64 (.lit 2))))), none⟩])
 .ret)))⟩
/- corral/pte.Bad -/
def af126 : AFunc := ⟨26, [.t 2],
 (.seq (.reg [⟨(some 2), (.p (.mv (.c (.bool (.lit false))))), none⟩])
 (.seq (.reg [⟨(some 3), (.p (.mv (.t 0))), none⟩, ⟨(some 4), (.p (.bin 0 .and (.t 3) (.c (.int .u32 (.lit 1))))), none⟩, ⟨(some 5), (.p (.bin 0 .eql (.t 4) (.c (.int .u32 (.lit 0))))), none⟩, ⟨(some 6), (.p (.mv (.t 5))), none⟩, ⟨(some 7), (.p (.mv (.t 0))), (some (6, false))⟩, ⟨(some 8), (.p (.bin 0 .and (.t 7) (.c (.int .u32 (.lit 4))))), (some (6, false))⟩, ⟨(some 9), (.p (.bin 0 .neq (.t 8) (.c (.int .u32 (.lit 0))))), (some (6, false))⟩, ⟨(some 10), (.p (.mv (.t 9))), (some (6, false))⟩, ⟨(some 11), (.p (.mv (.t 0))), (some (10, true))⟩, ⟨(some 12), (.p (.bin 0 .and (.t 11) (.c (.int .u32 (.lit 2))))), (some (10, true))⟩, ⟨(some 13), (.p (.bin 0 .eql (.t 12) (.c (.int .u32 (.lit 0))))), (some (10, true))⟩, ⟨(some 14), (.pick (.t 10) (.t 13) (.c (.bool (.lit false)))), (some (6, false))⟩, ⟨(some 15), (.pick (.t 6) (.c (.bool (.lit true))) (.t 14)), none⟩, ⟨(some 16), (.p (.mv (.t 15))), none⟩, ⟨(some 17), (.p (.mv (.t 0))), (some (16, false))⟩, ⟨(some 18), (.call (.f 127) [(.t 17)]), (some (16, false))⟩, ⟨(some 19), (.p (.un .not (.t 18))), (some (16, false))⟩, ⟨(some 20), (.p (.mv (.t 19))), (some (16, false))⟩, ⟨(some 21), (.p (.mv (.t 0))), (some (20, true))⟩, ⟨(some 22), (.p (.bin 0 .and (.t 21) (.c (.int .u32 (.lit 208))))), (some (20, true))⟩, ⟨(some 23), (.p (.bin 0 .neq (.t 22) (.c (.int .u32 (.lit 0))))), (some (20, true))⟩, ⟨(some 24), (.pick (.t 20) (.t 23) (.c (.bool (.lit false)))), (some (16, false))⟩, ⟨(some 25), (.pick (.t 16) (.c (.bool (.lit true))) (.t 24)), none⟩, ⟨(some 2), (.p (.mv (.t 25))), none⟩])
 .ret))⟩
/- corral/pte.Leaf -/
def af127 : AFunc := ⟨6, [.t 2],
 (.seq (.reg [⟨(some 2), (.p (.mv (.c (.bool (.lit false))))), none⟩])
 (.seq (.reg [⟨(some 3), (.p (.mv (.t 0))), none⟩, ⟨(some 4), (.p (.bin 0 .and (.t 3) (.c (.int .u32 (.lit 10))))), none⟩, ⟨(some 5), (.p (.bin 0 .neq (.t 4) (.c (.int .u32 (.lit 0))))), none⟩, ⟨(some 2), (.p (.mv (.t 5))), none⟩])
 .ret))⟩
/- corral/pte.Page -/
def af128 : AFunc := ⟨5, [.t 2],
 (.seq (.reg [⟨(some 2), (.p (.mv (.c (.int .u32 (.lit 0))))), none⟩])
 (.seq (.reg [⟨(some 3), (.p (.mv (.t 0))), none⟩, ⟨(some 4), (.p (.bin 0 .shr (.t 3) (.c (.int .u64 (.lit 10))))), none⟩, ⟨(some 2), (.p (.mv (.t 4))), none⟩])
 .ret))⟩
/- corral/walk.leaf -/
def af129 : AFunc := ⟨63, [.cell 12 true 5],
 (.seq (.reg [⟨(some 12), (.newC [(.int .i64 (.lit 0)), (.int .u32 (.lit 0)), (.int .u32 (.lit 0)), (.int .u32 (.lit 0)), (.int .u32 (.lit 0))]), none⟩])
 (.seq (.reg [⟨(some 17), (.p (.mv (.t 5))), none⟩, ⟨(some 18), (.p (.bin 0 .mul (.c (.int .i64 (.lit 10))) (.t 17))), none⟩, ⟨(some 19), (.p (.bin 0 .add (.c (.int .i64 (.lit 12))) (.t 18))), none⟩, ⟨(some 13), (.p (.mv (.t 19))), none⟩])
 (.seq (.reg [⟨(some 20), (.p (.mv (.t 0))), none⟩, ⟨(some 21), (.call (.f 128) [(.t 20)]), none⟩, ⟨(some 14), (.p (.mv (.t 21))), none⟩])
 (.seq (.seq (.reg [⟨(some 22), (.p (.mv (.t 0))), none⟩, ⟨(some 23), (.p (.mv (.t 4))), none⟩, ⟨(some 24), (.p (.mv (.t 2))), none⟩, ⟨(some 25), (.call (.f 134) [(.t 22), (.t 23), (.t 24)]), none⟩, ⟨(some 26), (.p (.un .not (.t 25))), none⟩, ⟨(some 27), (.p (.mv (.t 26))), none⟩, ⟨(some 28), (.p (.mv (.t 5))), (some (27, false))⟩, ⟨(some 29), (.p (.bin 0 .gtr (.t 28) (.c (.int .i64 (.lit 0))))), (some (27, false))⟩, ⟨(some 30), (.p (.mv (.t 29))), (some (27, false))⟩, ⟨(some 31), (.p (.mv (.t 14))), (some (30, true))⟩, ⟨(some 32), (.call (.f 73) [(.t 31), (.c (.int .i64 (.lit 0))), (.c (.int .i64 (.lit 10)))]), (some (30, true))⟩, ⟨(some 33), (.p (.bin 0 .neq (.t 32) (.c (.int .u32 (.lit 0))))), (some (30, true))⟩, ⟨(some 34), (.pick (.t 30) (.t 33) (.c (.bool (.lit false)))), (some (27, false))⟩, ⟨(some 35), (.pick (.t 27) (.c (.bool (.lit true))) (.t 34)), none⟩])
 (.cond (.t 35) (.seq (.reg [⟨(some 36), (.p (.mv (.t 4))), none⟩, ⟨(some 37), (.call (.f 110) [(.t 36), (.c (.bool (.lit true)))]), none⟩, ⟨none, (.store 5 (.t 12) (.t 37)), none⟩])
 .ret)
 .skip))
 (.seq (.seq (.reg [⟨(some 38), (.p (.mv (.t 0))), none⟩, ⟨(some 39), (.p (.mv (.t 4))), none⟩, ⟨(some 40), (.call (.f 135) [(.t 38), (.t 39)]), none⟩, ⟨(some 15), (.p (.mv (.t 40))), none⟩])
 (.seq (.reg [⟨(some 41), (.p (.mv (.t 15))), none⟩, ⟨(some 42), (.p (.mv (.t 0))), none⟩, ⟨(some 43), (.p (.bin 0 .neq (.t 41) (.t 42))), none⟩])
 (.cond (.t 43) (.seq (.reg [⟨(some 44), (.p (.mv (.t 1))), none⟩, ⟨(some 45), (.p (.mv (.t 15))), none⟩, ⟨(some 46), (.p (.build [(.int .i64 (.lit 0)), (.int .u32 (.lit 0)), (.int .u32 (.lit 0)), (.int .u32 (.lit 0)), (.int .u32 (.lit 0))] [(0, 1, (.c (.int .i64 (.lit 4)))), (2, 1, (.t 44)), (3, 1, (.t 45))])), none⟩, ⟨none, (.store 5 (.t 12) (.t 46)), none⟩])
 .ret)
 .skip)))
 (.seq (.reg [⟨(some 47), (.p (.mv (.t 14))), none⟩, ⟨(some 48), (.p (.conv .u64 (.t 47))), none⟩, ⟨(some 49), (.p (.bin 0 .shl (.t 48) (.c (.int .u64 (.lit 12))))), none⟩, ⟨(some 50), (.p (.mv (.t 3))), none⟩, ⟨(some 51), (.p (.mv (.t 13))), none⟩, ⟨(some 52), (.call (.f 73) [(.t 50), (.c (.int .i64 (.lit 0))), (.t 51)]), none⟩, ⟨(some 53), (.p (.conv .u64 (.t 52))), none⟩, ⟨(some 54), (.p (.bin 0 .or (.t 49) (.t 53))), none⟩, ⟨(some 16), (.p (.mv (.t 54))), none⟩])
 (.seq (.seq (.reg [⟨(some 55), (.p (.mv (.t 16))), none⟩, ⟨(some 56), (.p (.bin 0 .shr (.t 55) (.c (.int .u64 (.lit 32))))), none⟩, ⟨(some 57), (.p (.bin 0 .neq (.t 56) (.c (.int .u64 (.lit 0))))), none⟩])
 (.cond (.t 57) (.seq (.reg [⟨(some 58), (.p (.mv (.t 4))), none⟩, ⟨(some 59), (.call (.f 110) [(.t 58), (.c (.bool (.lit false)))]), none⟩, ⟨none, (.store 5 (.t 12) (.t 59)), none⟩])
 .ret)
 .skip))
 (.seq (.reg [⟨(some 60), (.p (.mv (.t 16))), none⟩, ⟨(some 61), (.p (.conv .u32 (.t 60))), none⟩, ⟨(some 62), (.p (.build [(.int .i64 (.lit 0)), (.int .u32 (.lit 0)), (.int .u32 (.lit 0)), (.int .u32 (.lit 0)), (.int .u32 (.lit 0))] [(0, 1, (.c (.int .i64 (.lit 1)))), (1, 1, (.t 61))])), none⟩, ⟨none, (.store 5 (.t 12) (.t 62)), none⟩])
 .ret))))))))⟩
/- corral/pte.Cause -/
def af130 : AFunc := ⟨15, [.t 4],
 (.seq (.reg [⟨(some 4), (.p (.mv (.c (.int .u32 (.lit 0))))), none⟩])
 (.seq (.seq (.reg [⟨(some 5), (.p (.mv (.t 0))), none⟩])
 (.block 0 (.seq (.reg [⟨(some 7), (.p (.bin 0 .eql (.t 5) (.c (.int .i64 (.lit 1))))), none⟩, ⟨(some 6), (.p (.mv (.t 7))), none⟩])
 (.cond (.t 6) (.seq (.seq (.reg [⟨(some 8), (.p (.mv (.t 1))), none⟩])
 (.cond (.t 8) (.seq (.reg [⟨(some 4), (.p (.mv (.c (.int .u32 (.lit 12))))), none⟩])
 .ret)
 .skip))
 (.seq (.reg [⟨(some 4), (.p (.mv (.c (.int .u32 (.lit 1))))), none⟩])
 .ret))
 (.seq (.reg [⟨(some 10), (.p (.bin 0 .eql (.t 5) (.c (.int .i64 (.lit 2))))), none⟩, ⟨(some 9), (.p (.mv (.t 10))), none⟩])
 (.cond (.t 9) (.seq (.seq (.reg [⟨(some 11), (.p (.mv (.t 1))), none⟩])
 (.cond (.t 11) (.seq (.reg [⟨(some 4), (.p (.mv (.c (.int .u32 (.lit 13))))), none⟩])
 .ret)
 .skip))
 (.seq (.reg [⟨(some 4), (.p (.mv (.c (.int .u32 (.lit 5))))), none⟩])
 .ret))
 (.seq (.reg [⟨(some 13), (.p (.bin 0 .eql (.t 5) (.c (.int .i64 (.lit 3))))), none⟩, ⟨(some 12), (.p (.mv (.t 13))), none⟩])
 (.cond (.t 12) (.seq (.seq (.reg [⟨(some 14), (.p (.mv (.t 1))), none⟩])
 (.cond (.t 14) (.seq (.reg [⟨(some 4), (.p (.mv (.c (.int .u32 (.lit 15))))), none⟩])
 .ret)
 .skip))
 (.seq (.reg [⟨(some 4), (.p (.mv (.c (.int .u32 (.lit 7))))), none⟩])
 .ret))
 .skip))))))))
 (.seq (.reg [⟨(some 4), (.p (.mv (.c (.int .u32 (.lit 2))))), none⟩])
 .ret)))⟩
/- corral/word.wide -/
def af131 : AFunc := ⟨12, [.t 4],
 (.seq (.reg [⟨(some 4), (.p (.mv (.c (.int .u64 (.lit 0))))), none⟩])
 (.seq (.seq (.reg [⟨(some 5), (.p (.mv (.t 1))), none⟩])
 (.cond (.t 5) (.seq (.reg [⟨(some 6), (.p (.mv (.t 0))), none⟩, ⟨(some 7), (.p (.conv .i32 (.t 6))), none⟩, ⟨(some 8), (.p (.conv .i64 (.t 7))), none⟩, ⟨(some 9), (.p (.conv .u64 (.t 8))), none⟩, ⟨(some 4), (.p (.mv (.t 9))), none⟩])
 .ret)
 .skip))
 (.seq (.reg [⟨(some 10), (.p (.mv (.t 0))), none⟩, ⟨(some 11), (.p (.conv .u64 (.t 10))), none⟩, ⟨(some 4), (.p (.mv (.t 11))), none⟩])
 .ret)))⟩
/- slices.Index[[]int,int] -/
def af132 : AFunc := ⟨19, [.t 4],
 (.seq (.reg [⟨(some 4), (.p (.mv (.c (.int .i64 (.lit 0))))), none⟩])
 (.seq (.seq (.reg [⟨(some 6), (.p (.mv (.t 0))), none⟩, ⟨(some 7), (.p (.lenS (.t 6))), none⟩, ⟨(some 8), (.p (.mv (.c (.int .i64 (.lit 0))))), none⟩])
 (.block 0 (.loop (.seq (.reg [⟨(some 9), (.p (.bin 0 .lss (.t 8) (.t 7))), none⟩])
 (.seq (.cond (.t 9) .skip
 (.exit 0))
 (.seq (.block 1 (.seq (.reg [⟨(some 10), (.p (.mv (.t 8))), none⟩, ⟨(some 5), (.p (.mv (.t 10))), none⟩])
 (.seq (.reg [⟨(some 11), (.p (.mv (.t 1))), none⟩, ⟨(some 12), (.p (.mv (.t 0))), none⟩, ⟨(some 13), (.p (.mv (.t 5))), none⟩, ⟨(some 14), (.p (.idxSl 1 (.t 12) (.t 13))), none⟩, ⟨(some 15), (.load false 1 (.t 14)), none⟩, ⟨(some 16), (.p (.bin 0 .eql (.t 11) (.t 15))), none⟩])
 (.cond (.t 16) (.seq (.reg [⟨(some 17), (.p (.mv (.t 5))), none⟩, ⟨(some 4), (.p (.mv (.t 17))), none⟩])
 .ret)
 .skip))))
 (.reg [⟨(some 18), (.p (.bin 0 .add (.t 8) (.c (.int .i64 (.lit 1))))), none⟩, ⟨(some 8), (.p (.mv (.t 18))), none⟩])))))))
 (.seq (.reg [⟨(some 4), (.p (.mv (.c (.int .i64 (.lit (-1)))))), none⟩])
 .ret)))⟩
/- corral/enc.pieces -/
def af133 : AFunc := ⟨32, [.t 2, .t 3],
 (.seq (.reg [⟨(some 2), (.p (.mv (.c .nilSlice))), none⟩, ⟨(some 3), (.p (.mv (.c (.int .i64 (.lit 0))))), none⟩])
 (.seq (.seq (.reg [⟨(some 4), (.p (.mv (.t 0))), none⟩])
 (.block 0 (.seq (.reg [⟨(some 6), (.p (.bin 0 .eql (.t 4) (.c (.int .u8 (.lit 73))))), none⟩, ⟨(some 5), (.p (.mv (.t 6))), none⟩])
 (.cond (.t 5) (.seq (.reg [⟨(some 7), (.p (.build [(.int .i64 (.lit 0)), (.int .i64 (.lit 0)), (.int .i64 (.lit 0))] [(0, 1, (.c (.int .i64 (.lit 20)))), (1, 1, (.c (.int .i64 (.lit 12)))), (2, 1, (.c (.int .i64 (.lit 0))))])), none⟩, ⟨(some 8), (.mkArr 3 1 [(.int .i64 (.lit 0)), (.int .i64 (.lit 0)), (.int .i64 (.lit 0))] [(0, 3, (.t 7))]), none⟩, ⟨(some 2), (.p (.mv (.t 8))), none⟩, ⟨(some 3), (.p (.mv (.c (.int .i64 (.lit 12))))), none⟩])
 .ret)
 (.seq (.reg [⟨(some 10), (.p (.bin 0 .eql (.t 4) (.c (.int .u8 (.lit 83))))), none⟩, ⟨(some 9), (.p (.mv (.t 10))), none⟩])
 (.cond (.t 9) (.seq (.reg [⟨(some 11), (.p (.build [(.int .i64 (.lit 0)), (.int .i64 (.lit 0)), (.int .i64 (.lit 0))] [(0, 1, (.c (.int .i64 (.lit 25)))), (1, 1, (.c (.int .i64 (.lit 7)))), (2, 1, (.c (.int .i64 (.lit 5))))])), none⟩, ⟨(some 12), (.p (.build [(.int .i64 (.lit 0)), (.int .i64 (.lit 0)), (.int .i64 (.lit 0))] [(0, 1, (.c (.int .i64 (.lit 7)))), (1, 1, (.c (.int .i64 (.lit 5)))), (2, 1, (.c (.int .i64 (.lit 0))))])), none⟩, ⟨(some 13), (.mkArr 3 2 [(.int .i64 (.lit 0)), (.int .i64 (.lit 0)), (.int .i64 (.lit 0))] [(0, 3, (.t 11)), (3, 3, (.t 12))]), none⟩, ⟨(some 2), (.p (.mv (.t 13))), none⟩, ⟨(some 3), (.p (.mv (.c (.int .i64 (.lit 12))))), none⟩])
 .ret)
 (.seq (.reg [⟨(some 15), (.p (.bin 0 .eql (.t 4) (.c (.int .u8 (.lit 66))))), none⟩, ⟨(some 14), (.p (.mv (.t 15))), none⟩])
 (.cond (.t 14) (.seq (.reg [⟨(some 16), (.p (.build [(.int .i64 (.lit 0)), (.int .i64 (.lit 0)), (.int .i64 (.lit 0))] [(0, 1, (.c (.int .i64 (.lit 31)))), (1, 1, (.c (.int .i64 (.lit 1)))), (2, 1, (.c (.int .i64 (.lit 12))))])), none⟩, ⟨(some 17), (.p (.build [(.int .i64 (.lit 0)), (.int .i64 (.lit 0)), (.int .i64 (.lit 0))] [(0, 1, (.c (.int .i64 (.lit 7)))), (1, 1, (.c (.int .i64 (.lit 1)))), (2, 1, (.c (.int .i64 (.lit 11))))])), none⟩, ⟨(some 18), (.p (.build [(.int .i64 (.lit 0)), (.int .i64 (.lit 0)), (.int .i64 (.lit 0))] [(0, 1, (.c (.int .i64 (.lit 25)))), (1, 1, (.c (.int .i64 (.lit 6)))), (2, 1, (.c (.int .i64 (.lit 5))))])), none⟩, ⟨(some 19), (.p (.build [(.int .i64 (.lit 0)), (.int .i64 (.lit 0)), (.int .i64 (.lit 0))] [(0, 1, (.c (.int .i64 (.lit 8)))), (1, 1, (.c (.int .i64 (.lit 4)))), (2, 1, (.c (.int .i64 (.lit 1))))])), none⟩, ⟨(some 20), (.mkArr 3 4 [(.int .i64 (.lit 0)), (.int .i64 (.lit 0)), (.int .i64 (.lit 0))] [(0, 3, (.t 16)), (3, 3, (.t 17)), (6, 3, (.t 18)), (9, 3, (.t 19))]), none⟩, ⟨(some 2), (.p (.mv (.t 20))), none⟩, ⟨(some 3), (.p (.mv (.c (.int .i64 (.lit 13))))), none⟩])
 .ret)
 (.seq (.reg [⟨(some 22), (.p (.bin 0 .eql (.t 4) (.c (.int .u8 (.lit 85))))), none⟩, ⟨(some 21), (.p (.mv (.t 22))), none⟩])
 (.cond (.t 21) (.seq (.reg [⟨(some 23), (.p (.build [(.int .i64 (.lit 0)), (.int .i64 (.lit 0)), (.int .i64 (.lit 0))] [(0, 1, (.c (.int .i64 (.lit 12)))), (1, 1, (.c (.int .i64 (.lit 20)))), (2, 1, (.c (.int .i64 (.lit 12))))])), none⟩, ⟨(some 24), (.mkArr 3 1 [(.int .i64 (.lit 0)), (.int .i64 (.lit 0)), (.int .i64 (.lit 0))] [(0, 3, (.t 23))]), none⟩, ⟨(some 2), (.p (.mv (.t 24))), none⟩, ⟨(some 3), (.p (.mv (.c (.int .i64 (.lit 32))))), none⟩])
 .ret)
 (.seq (.reg [⟨(some 26), (.p (.bin 0 .eql (.t 4) (.c (.int .u8 (.lit 74))))), none⟩, ⟨(some 25), (.p (.mv (.t 26))), none⟩])
 (.cond (.t 25) (.seq (.reg [⟨(some 27), (.p (.build [(.int .i64 (.lit 0)), (.int .i64 (.lit 0)), (.int .i64 (.lit 0))] [(0, 1, (.c (.int .i64 (.lit 31)))), (1, 1, (.c (.int .i64 (.lit 1)))), (2, 1, (.c (.int .i64 (.lit 20))))])), none⟩, ⟨(some 28), (.p (.build [(.int .i64 (.lit 0)), (.int .i64 (.lit 0)), (.int .i64 (.lit 0))] [(0, 1, (.c (.int .i64 (.lit 12)))), (1, 1, (.c (.int .i64 (.lit 8)))), (2, 1, (.c (.int .i64 (.lit 12))))])), none⟩, ⟨(some 29), (.p (.build [(.int .i64 (.lit 0)), (.int .i64 (.lit 0)), (.int .i64 (.lit 0))] [(0, 1, (.c (.int .i64 (.lit 20)))), (1, 1, (.c (.int .i64 (.lit 1)))), (2, 1, (.c (.int .i64 (.lit 11))))])), none⟩, ⟨(some 30), (.p (.build [(.int .i64 (.lit 0)), (.int .i64 (.lit 0)), (.int .i64 (.lit 0))] [(0, 1, (.c (.int .i64 (.lit 21)))), (1, 1, (.c (.int .i64 (.lit 10)))), (2, 1, (.c (.int .i64 (.lit 1))))])), none⟩, ⟨(some 31), (.mkArr 3 4 [(.int .i64 (.lit 0)), (.int .i64 (.lit 0)), (.int .i64 (.lit 0))] [(0, 3, (.t 27)), (3, 3, (.t 28)), (6, 3, (.t 29)), (9, 3, (.t 30))]), none⟩, ⟨(some 2), (.p (.mv (.t 31))), none⟩, ⟨(some 3), (.p (.mv (.c (.int .i64 (.lit 21))))), none⟩])
 .ret)
 .skip))))))))))))
 (.seq (.reg [⟨(some 2), (.p (.mv (.c .nilSlice))), none⟩, ⟨(some 3), (.p (.mv (.c (.int .i64 (.lit 0))))), none⟩])
 .ret)))⟩
/- corral/pte.May -/
def af134 : AFunc := ⟨51, [.t 6],
 (.seq (.reg [⟨(some 6), (.p (.mv (.c (.bool (.lit false))))), none⟩])
 (.seq (.reg [⟨(some 7), (.p (.mv (.c (.int .u32 (.lit 0))))), none⟩])
 (.seq (.seq (.reg [⟨(some 9), (.p (.mv (.t 1))), none⟩])
 (.block 0 (.seq (.reg [⟨(some 11), (.p (.bin 0 .eql (.t 9) (.c (.int .i64 (.lit 1))))), none⟩, ⟨(some 10), (.p (.mv (.t 11))), none⟩])
 (.cond (.t 10) (.reg [⟨(some 7), (.p (.mv (.c (.int .u32 (.lit 8))))), none⟩])
 (.seq (.reg [⟨(some 13), (.p (.bin 0 .eql (.t 9) (.c (.int .i64 (.lit 2))))), none⟩, ⟨(some 12), (.p (.mv (.t 13))), none⟩])
 (.cond (.t 12) (.reg [⟨(some 7), (.p (.mv (.c (.int .u32 (.lit 2))))), none⟩])
 (.seq (.reg [⟨(some 15), (.p (.bin 0 .eql (.t 9) (.c (.int .i64 (.lit 3))))), none⟩, ⟨(some 14), (.p (.mv (.t 15))), none⟩])
 (.cond (.t 14) (.reg [⟨(some 7), (.p (.mv (.c (.int .u32 (.lit 4))))), none⟩])
 .skip))))))))
 (.seq (.reg [⟨(some 16), (.p (.mv (.t 0))), none⟩, ⟨(some 17), (.p (.bin 0 .and (.t 16) (.c (.int .u32 (.lit 16))))), none⟩, ⟨(some 18), (.p (.bin 0 .neq (.t 17) (.c (.int .u32 (.lit 0))))), none⟩, ⟨(some 8), (.p (.mv (.t 18))), none⟩])
 (.seq (.reg [⟨(some 19), (.p (.mv (.t 7))), none⟩, ⟨(some 20), (.p (.bin 0 .neq (.t 19) (.c (.int .u32 (.lit 0))))), none⟩, ⟨(some 21), (.p (.mv (.t 20))), none⟩, ⟨(some 22), (.p (.mv (.t 0))), (some (21, true))⟩, ⟨(some 23), (.call (.f 126) [(.t 22)]), (some (21, true))⟩, ⟨(some 24), (.p (.un .not (.t 23))), (some (21, true))⟩, ⟨(some 25), (.pick (.t 21) (.t 24) (.c (.bool (.lit false)))), none⟩, ⟨(some 26), (.p (.mv (.t 25))), none⟩, ⟨(some 27), (.p (.mv (.t 0))), (some (26, true))⟩, ⟨(some 28), (.call (.f 127) [(.t 27)]), (some (26, true))⟩, ⟨(some 29), (.pick (.t 26) (.t 28) (.c (.bool (.lit false)))), none⟩, ⟨(some 30), (.p (.mv (.t 29))), none⟩, ⟨(some 31), (.p (.mv (.t 0))), (some (30, true))⟩, ⟨(some 32), (.p (.mv (.t 7))), (some (30, true))⟩, ⟨(some 33), (.p (.bin 0 .and (.t 31) (.t 32))), (some (30, true))⟩, ⟨(some 34), (.p (.bin 0 .neq (.t 33) (.c (.int .u32 (.lit 0))))), (some (30, true))⟩, ⟨(some 35), (.pick (.t 30) (.t 34) (.c (.bool (.lit false)))), none⟩, ⟨(some 36), (.p (.mv (.t 35))), none⟩, ⟨(some 37), (.p (.mv (.t 2))), (some (36, true))⟩, ⟨(some 38), (.p (.bin 0 .eql (.t 37) (.c (.int .i64 (.lit 0))))), (some (36, true))⟩, ⟨(some 39), (.p (.mv (.t 38))), (some (36, true))⟩, ⟨(some 40), (.p (.mv (.t 8))), (some (39, true))⟩, ⟨(some 41), (.pick (.t 39) (.t 40) (.c (.bool (.lit false)))), (some (36, true))⟩, ⟨(some 42), (.p (.mv (.t 41))), (some (36, true))⟩, ⟨(some 43), (.p (.mv (.t 2))), (some (42, false))⟩, ⟨(some 44), (.p (.bin 0 .eql (.t 43) (.c (.int .i64 (.lit 3))))), (some (42, false))⟩, ⟨(some 45), (.p (.mv (.t 44))), (some (42, false))⟩, ⟨(some 46), (.p (.mv (.t 8))), (some (45, true))⟩, ⟨(some 47), (.p (.un .not (.t 46))), (some (45, true))⟩, ⟨(some 48), (.pick (.t 45) (.t 47) (.c (.bool (.lit false)))), (some (42, false))⟩, ⟨(some 49), (.pick (.t 42) (.c (.bool (.lit true))) (.t 48)), (some (36, true))⟩, ⟨(some 50), (.pick (.t 36) (.t 49) (.c (.bool (.lit false)))), none⟩, ⟨(some 6), (.p (.mv (.t 50))), none⟩])
 .ret)))))⟩
/- corral/pte.Needs -/
def af135 : AFunc := ⟨11, [.t 4],
 (.seq (.reg [⟨(some 4), (.p (.mv (.c (.int .u32 (.lit 0))))), none⟩])
 (.seq (.seq (.reg [⟨(some 5), (.p (.mv (.t 1))), none⟩, ⟨(some 6), (.p (.bin 0 .eql (.t 5) (.c (.int .i64 (.lit 3))))), none⟩])
 (.cond (.t 6) (.reg [⟨(some 7), (.p (.mv (.t 0))), none⟩, ⟨(some 8), (.p (.bin 0 .or (.t 7) (.c (.int .u32 (.lit 128))))), none⟩, ⟨(some 0), (.p (.mv (.t 8))), none⟩])
 .skip))
 (.seq (.reg [⟨(some 9), (.p (.mv (.t 0))), none⟩, ⟨(some 10), (.p (.bin 0 .or (.t 9) (.c (.int .u32 (.lit 64))))), none⟩, ⟨(some 4), (.p (.mv (.t 10))), none⟩])
 .ret)))⟩
def F : Nat → Option AFunc
  | 6 => some af6
  | 7 => some af7
  | 8 => some af8
  | 9 => some af9
  | 10 => some af10
  | 11 => some af11
  | 12 => some af12
  | 13 => some af13
  | 15 => some af15
  | 16 => some af16
  | 17 => some af17
  | 18 => some af18
  | 19 => some af19
  | 21 => some af21
  | 22 => some af22
  | 23 => some af23
  | 24 => some af24
  | 25 => some af25
  | 26 => some af26
  | 27 => some af27
  | 28 => some af28
  | 29 => some af29
  | 30 => some af30
  | 31 => some af31
  | 32 => some af32
  | 33 => some af33
  | 34 => some af34
  | 36 => some af36
  | 37 => some af37
  | 38 => some af38
  | 39 => some af39
  | 40 => some af40
  | 41 => some af41
  | 42 => some af42
  | 43 => some af43
  | 44 => some af44
  | 45 => some af45
  | 46 => some af46
  | 47 => some af47
  | 48 => some af48
  | 49 => some af49
  | 50 => some af50
  | 51 => some af51
  | 52 => some af52
  | 53 => some af53
  | 54 => some af54
  | 55 => some af55
  | 56 => some af56
  | 57 => some af57
  | 58 => some af58
  | 59 => some af59
  | 60 => some af60
  | 61 => some af61
  | 62 => some af62
  | 63 => some af63
  | 64 => some af64
  | 65 => some af65
  | 66 => some af66
  | 67 => some af67
  | 68 => some af68
  | 69 => some af69
  | 70 => some af70
  | 71 => some af71
  | 72 => some af72
  | 73 => some af73
  | 74 => some af74
  | 75 => some af75
  | 76 => some af76
  | 77 => some af77
  | 78 => some af78
  | 79 => some af79
  | 80 => some af80
  | 81 => some af81
  | 82 => some af82
  | 83 => some af83
  | 84 => some af84
  | 85 => some af85
  | 86 => some af86
  | 87 => some af87
  | 88 => some af88
  | 89 => some af89
  | 90 => some af90
  | 91 => some af91
  | 92 => some af92
  | 93 => some af93
  | 94 => some af94
  | 95 => some af95
  | 96 => some af96
  | 97 => some af97
  | 98 => some af98
  | 99 => some af99
  | 100 => some af100
  | 101 => some af101
  | 102 => some af102
  | 103 => some af103
  | 104 => some af104
  | 105 => some af105
  | 106 => some af106
  | 107 => some af107
  | 108 => some af108
  | 109 => some af109
  | 110 => some af110
  | 111 => some af111
  | 112 => some af112
  | 113 => some af113
  | 114 => some af114
  | 115 => some af115
  | 116 => some af116
  | 117 => some af117
  | 118 => some af118
  | 119 => some af119
  | 120 => some af120
  | 121 => some af121
  | 122 => some af122
  | 123 => some af123
  | 124 => some af124
  | 125 => some af125
  | 126 => some af126
  | 127 => some af127
  | 128 => some af128
  | 129 => some af129
  | 130 => some af130
  | 131 => some af131
  | 132 => some af132
  | 133 => some af133
  | 134 => some af134
  | 135 => some af135
  | _ => none
theorem cf6 : cFunc Tryz.prog 6 = some af6 := by kernel_rfl
theorem cf7 : cFunc Tryz.prog 7 = some af7 := by kernel_rfl
theorem cf8 : cFunc Tryz.prog 8 = some af8 := by kernel_rfl
theorem cf9 : cFunc Tryz.prog 9 = some af9 := by kernel_rfl
theorem cf10 : cFunc Tryz.prog 10 = some af10 := by kernel_rfl
theorem cf11 : cFunc Tryz.prog 11 = some af11 := by kernel_rfl
theorem cf12 : cFunc Tryz.prog 12 = some af12 := by kernel_rfl
theorem cf13 : cFunc Tryz.prog 13 = some af13 := by kernel_rfl
theorem cf15 : cFunc Tryz.prog 15 = some af15 := by kernel_rfl
theorem cf16 : cFunc Tryz.prog 16 = some af16 := by kernel_rfl
theorem cf17 : cFunc Tryz.prog 17 = some af17 := by kernel_rfl
theorem cf18 : cFunc Tryz.prog 18 = some af18 := by kernel_rfl
theorem cf19 : cFunc Tryz.prog 19 = some af19 := by kernel_rfl
theorem cf21 : cFunc Tryz.prog 21 = some af21 := by kernel_rfl
theorem cf22 : cFunc Tryz.prog 22 = some af22 := by kernel_rfl
theorem cf23 : cFunc Tryz.prog 23 = some af23 := by kernel_rfl
theorem cf24 : cFunc Tryz.prog 24 = some af24 := by kernel_rfl
theorem cf25 : cFunc Tryz.prog 25 = some af25 := by kernel_rfl
theorem cf26 : cFunc Tryz.prog 26 = some af26 := by kernel_rfl
theorem cf27 : cFunc Tryz.prog 27 = some af27 := by kernel_rfl
theorem cf28 : cFunc Tryz.prog 28 = some af28 := by kernel_rfl
theorem cf29 : cFunc Tryz.prog 29 = some af29 := by kernel_rfl
theorem cf30 : cFunc Tryz.prog 30 = some af30 := by kernel_rfl
theorem cf31 : cFunc Tryz.prog 31 = some af31 := by kernel_rfl
theorem cf32 : cFunc Tryz.prog 32 = some af32 := by kernel_rfl
theorem cf33 : cFunc Tryz.prog 33 = some af33 := by kernel_rfl
theorem cf34 : cFunc Tryz.prog 34 = some af34 := by kernel_rfl
theorem cf36 : cFunc Tryz.prog 36 = some af36 := by kernel_rfl
theorem cf37 : cFunc Tryz.prog 37 = some af37 := by kernel_rfl
theorem cf38 : cFunc Tryz.prog 38 = some af38 := by kernel_rfl
theorem cf39 : cFunc Tryz.prog 39 = some af39 := by kernel_rfl
theorem cf40 : cFunc Tryz.prog 40 = some af40 := by kernel_rfl
theorem cf41 : cFunc Tryz.prog 41 = some af41 := by kernel_rfl
theorem cf42 : cFunc Tryz.prog 42 = some af42 := by kernel_rfl
theorem cf43 : cFunc Tryz.prog 43 = some af43 := by kernel_rfl
theorem cf44 : cFunc Tryz.prog 44 = some af44 := by kernel_rfl
theorem cf45 : cFunc Tryz.prog 45 = some af45 := by kernel_rfl
theorem cf46 : cFunc Tryz.prog 46 = some af46 := by kernel_rfl
theorem cf47 : cFunc Tryz.prog 47 = some af47 := by kernel_rfl
theorem cf48 : cFunc Tryz.prog 48 = some af48 := by kernel_rfl
theorem cf49 : cFunc Tryz.prog 49 = some af49 := by kernel_rfl
theorem cf50 : cFunc Tryz.prog 50 = some af50 := by kernel_rfl
theorem cf51 : cFunc Tryz.prog 51 = some af51 := by kernel_rfl
theorem cf52 : cFunc Tryz.prog 52 = some af52 := by kernel_rfl
theorem cf53 : cFunc Tryz.prog 53 = some af53 := by kernel_rfl
theorem cf54 : cFunc Tryz.prog 54 = some af54 := by kernel_rfl
theorem cf55 : cFunc Tryz.prog 55 = some af55 := by kernel_rfl
theorem cf56 : cFunc Tryz.prog 56 = some af56 := by kernel_rfl
theorem cf57 : cFunc Tryz.prog 57 = some af57 := by kernel_rfl
theorem cf58 : cFunc Tryz.prog 58 = some af58 := by kernel_rfl
theorem cf59 : cFunc Tryz.prog 59 = some af59 := by kernel_rfl
theorem cf60 : cFunc Tryz.prog 60 = some af60 := by kernel_rfl
theorem cf61 : cFunc Tryz.prog 61 = some af61 := by kernel_rfl
theorem cf62 : cFunc Tryz.prog 62 = some af62 := by kernel_rfl
theorem cf63 : cFunc Tryz.prog 63 = some af63 := by kernel_rfl
theorem cf64 : cFunc Tryz.prog 64 = some af64 := by kernel_rfl
theorem cf65 : cFunc Tryz.prog 65 = some af65 := by kernel_rfl
theorem cf66 : cFunc Tryz.prog 66 = some af66 := by kernel_rfl
theorem cf67 : cFunc Tryz.prog 67 = some af67 := by kernel_rfl
theorem cf68 : cFunc Tryz.prog 68 = some af68 := by kernel_rfl
theorem cf69 : cFunc Tryz.prog 69 = some af69 := by kernel_rfl
theorem cf70 : cFunc Tryz.prog 70 = some af70 := by kernel_rfl
theorem cf71 : cFunc Tryz.prog 71 = some af71 := by kernel_rfl
theorem cf72 : cFunc Tryz.prog 72 = some af72 := by kernel_rfl
theorem cf73 : cFunc Tryz.prog 73 = some af73 := by kernel_rfl
theorem cf74 : cFunc Tryz.prog 74 = some af74 := by kernel_rfl
theorem cf75 : cFunc Tryz.prog 75 = some af75 := by kernel_rfl
theorem cf76 : cFunc Tryz.prog 76 = some af76 := by kernel_rfl
theorem cf77 : cFunc Tryz.prog 77 = some af77 := by kernel_rfl
theorem cf78 : cFunc Tryz.prog 78 = some af78 := by kernel_rfl
theorem cf79 : cFunc Tryz.prog 79 = some af79 := by kernel_rfl
theorem cf80 : cFunc Tryz.prog 80 = some af80 := by kernel_rfl
theorem cf81 : cFunc Tryz.prog 81 = some af81 := by kernel_rfl
theorem cf82 : cFunc Tryz.prog 82 = some af82 := by kernel_rfl
theorem cf83 : cFunc Tryz.prog 83 = some af83 := by kernel_rfl
theorem cf84 : cFunc Tryz.prog 84 = some af84 := by kernel_rfl
theorem cf85 : cFunc Tryz.prog 85 = some af85 := by kernel_rfl
theorem cf86 : cFunc Tryz.prog 86 = some af86 := by kernel_rfl
theorem cf87 : cFunc Tryz.prog 87 = some af87 := by kernel_rfl
theorem cf88 : cFunc Tryz.prog 88 = some af88 := by kernel_rfl
theorem cf89 : cFunc Tryz.prog 89 = some af89 := by kernel_rfl
theorem cf90 : cFunc Tryz.prog 90 = some af90 := by kernel_rfl
theorem cf91 : cFunc Tryz.prog 91 = some af91 := by kernel_rfl
theorem cf92 : cFunc Tryz.prog 92 = some af92 := by kernel_rfl
theorem cf93 : cFunc Tryz.prog 93 = some af93 := by kernel_rfl
theorem cf94 : cFunc Tryz.prog 94 = some af94 := by kernel_rfl
theorem cf95 : cFunc Tryz.prog 95 = some af95 := by kernel_rfl
theorem cf96 : cFunc Tryz.prog 96 = some af96 := by kernel_rfl
theorem cf97 : cFunc Tryz.prog 97 = some af97 := by kernel_rfl
theorem cf98 : cFunc Tryz.prog 98 = some af98 := by kernel_rfl
theorem cf99 : cFunc Tryz.prog 99 = some af99 := by kernel_rfl
theorem cf100 : cFunc Tryz.prog 100 = some af100 := by kernel_rfl
theorem cf101 : cFunc Tryz.prog 101 = some af101 := by kernel_rfl
theorem cf102 : cFunc Tryz.prog 102 = some af102 := by kernel_rfl
theorem cf103 : cFunc Tryz.prog 103 = some af103 := by kernel_rfl
theorem cf104 : cFunc Tryz.prog 104 = some af104 := by kernel_rfl
theorem cf105 : cFunc Tryz.prog 105 = some af105 := by kernel_rfl
theorem cf106 : cFunc Tryz.prog 106 = some af106 := by kernel_rfl
theorem cf107 : cFunc Tryz.prog 107 = some af107 := by kernel_rfl
theorem cf108 : cFunc Tryz.prog 108 = some af108 := by kernel_rfl
theorem cf109 : cFunc Tryz.prog 109 = some af109 := by kernel_rfl
theorem cf110 : cFunc Tryz.prog 110 = some af110 := by kernel_rfl
theorem cf111 : cFunc Tryz.prog 111 = some af111 := by kernel_rfl
theorem cf112 : cFunc Tryz.prog 112 = some af112 := by kernel_rfl
theorem cf113 : cFunc Tryz.prog 113 = some af113 := by kernel_rfl
theorem cf114 : cFunc Tryz.prog 114 = some af114 := by kernel_rfl
theorem cf115 : cFunc Tryz.prog 115 = some af115 := by kernel_rfl
theorem cf116 : cFunc Tryz.prog 116 = some af116 := by kernel_rfl
theorem cf117 : cFunc Tryz.prog 117 = some af117 := by kernel_rfl
theorem cf118 : cFunc Tryz.prog 118 = some af118 := by kernel_rfl
theorem cf119 : cFunc Tryz.prog 119 = some af119 := by kernel_rfl
theorem cf120 : cFunc Tryz.prog 120 = some af120 := by kernel_rfl
theorem cf121 : cFunc Tryz.prog 121 = some af121 := by kernel_rfl
theorem cf122 : cFunc Tryz.prog 122 = some af122 := by kernel_rfl
theorem cf123 : cFunc Tryz.prog 123 = some af123 := by kernel_rfl
theorem cf124 : cFunc Tryz.prog 124 = some af124 := by kernel_rfl
theorem cf125 : cFunc Tryz.prog 125 = some af125 := by kernel_rfl
theorem cf126 : cFunc Tryz.prog 126 = some af126 := by kernel_rfl
theorem cf127 : cFunc Tryz.prog 127 = some af127 := by kernel_rfl
theorem cf128 : cFunc Tryz.prog 128 = some af128 := by kernel_rfl
theorem cf129 : cFunc Tryz.prog 129 = some af129 := by kernel_rfl
theorem cf130 : cFunc Tryz.prog 130 = some af130 := by kernel_rfl
theorem cf131 : cFunc Tryz.prog 131 = some af131 := by kernel_rfl
theorem cf132 : cFunc Tryz.prog 132 = some af132 := by kernel_rfl
theorem cf133 : cFunc Tryz.prog 133 = some af133 := by kernel_rfl
theorem cf134 : cFunc Tryz.prog 134 = some af134 := by kernel_rfl
theorem cf135 : cFunc Tryz.prog 135 = some af135 := by kernel_rfl
theorem hF : ∀ f af, F f = some af → cFunc Tryz.prog f = some af := by
  intro f af h
  unfold F at h
  split at h
  · cases h; exact cf6
  · cases h; exact cf7
  · cases h; exact cf8
  · cases h; exact cf9
  · cases h; exact cf10
  · cases h; exact cf11
  · cases h; exact cf12
  · cases h; exact cf13
  · cases h; exact cf15
  · cases h; exact cf16
  · cases h; exact cf17
  · cases h; exact cf18
  · cases h; exact cf19
  · cases h; exact cf21
  · cases h; exact cf22
  · cases h; exact cf23
  · cases h; exact cf24
  · cases h; exact cf25
  · cases h; exact cf26
  · cases h; exact cf27
  · cases h; exact cf28
  · cases h; exact cf29
  · cases h; exact cf30
  · cases h; exact cf31
  · cases h; exact cf32
  · cases h; exact cf33
  · cases h; exact cf34
  · cases h; exact cf36
  · cases h; exact cf37
  · cases h; exact cf38
  · cases h; exact cf39
  · cases h; exact cf40
  · cases h; exact cf41
  · cases h; exact cf42
  · cases h; exact cf43
  · cases h; exact cf44
  · cases h; exact cf45
  · cases h; exact cf46
  · cases h; exact cf47
  · cases h; exact cf48
  · cases h; exact cf49
  · cases h; exact cf50
  · cases h; exact cf51
  · cases h; exact cf52
  · cases h; exact cf53
  · cases h; exact cf54
  · cases h; exact cf55
  · cases h; exact cf56
  · cases h; exact cf57
  · cases h; exact cf58
  · cases h; exact cf59
  · cases h; exact cf60
  · cases h; exact cf61
  · cases h; exact cf62
  · cases h; exact cf63
  · cases h; exact cf64
  · cases h; exact cf65
  · cases h; exact cf66
  · cases h; exact cf67
  · cases h; exact cf68
  · cases h; exact cf69
  · cases h; exact cf70
  · cases h; exact cf71
  · cases h; exact cf72
  · cases h; exact cf73
  · cases h; exact cf74
  · cases h; exact cf75
  · cases h; exact cf76
  · cases h; exact cf77
  · cases h; exact cf78
  · cases h; exact cf79
  · cases h; exact cf80
  · cases h; exact cf81
  · cases h; exact cf82
  · cases h; exact cf83
  · cases h; exact cf84
  · cases h; exact cf85
  · cases h; exact cf86
  · cases h; exact cf87
  · cases h; exact cf88
  · cases h; exact cf89
  · cases h; exact cf90
  · cases h; exact cf91
  · cases h; exact cf92
  · cases h; exact cf93
  · cases h; exact cf94
  · cases h; exact cf95
  · cases h; exact cf96
  · cases h; exact cf97
  · cases h; exact cf98
  · cases h; exact cf99
  · cases h; exact cf100
  · cases h; exact cf101
  · cases h; exact cf102
  · cases h; exact cf103
  · cases h; exact cf104
  · cases h; exact cf105
  · cases h; exact cf106
  · cases h; exact cf107
  · cases h; exact cf108
  · cases h; exact cf109
  · cases h; exact cf110
  · cases h; exact cf111
  · cases h; exact cf112
  · cases h; exact cf113
  · cases h; exact cf114
  · cases h; exact cf115
  · cases h; exact cf116
  · cases h; exact cf117
  · cases h; exact cf118
  · cases h; exact cf119
  · cases h; exact cf120
  · cases h; exact cf121
  · cases h; exact cf122
  · cases h; exact cf123
  · cases h; exact cf124
  · cases h; exact cf125
  · cases h; exact cf126
  · cases h; exact cf127
  · cases h; exact cf128
  · cases h; exact cf129
  · cases h; exact cf130
  · cases h; exact cf131
  · cases h; exact cf132
  · cases h; exact cf133
  · cases h; exact cf134
  · cases h; exact cf135
  · cases h
theorem mixed : Tryz.prog.follows .mixedOrders = true := Tryz.checked.mixed
def doorL : List DoorE := [⟨"corral/api.ErrMany", 1, [116, 111, 111, 32, 109, 97, 110, 121]⟩,
 ⟨"corral/api.ErrRange", 0, [97, 32, 110, 117, 109, 98, 101, 114, 32, 111, 117, 116, 32, 111, 102, 32, 105, 116, 115, 32, 114, 97, 110, 103, 101]⟩,
 ⟨"corral/api.ErrTrace", 2, [110, 111, 32, 114, 117, 110, 32, 111, 102, 32, 116, 104, 101, 32, 105, 110, 115, 116, 114, 117, 99, 116, 105, 111, 110, 115]⟩]
def doorH : Hp := match pushAll hpE (objsFrom 199 0 doorL) with | some h => h | none => hpE
theorem doorH_eq : pushAll hp0 (objsFrom 199 0 doorL) = some doorH := by kernel_rfl
theorem doorH_ok : doorOK doorH = true := by kernel_rfl
def G : Nat → Option Nat := Gof 0 doorL
theorem G_lt : ∀ g id, G g = some id → id < doorH.sz := by
  intro g id h
  have hsz : doorH.sz = 6 := by kernel_rfl
  rw [hsz]
  exact Gof_lt (k := 0) (by kernel_rfl) h
end Go.Proofs.YtaclekenckkgcaaGreatDoor.seqBells

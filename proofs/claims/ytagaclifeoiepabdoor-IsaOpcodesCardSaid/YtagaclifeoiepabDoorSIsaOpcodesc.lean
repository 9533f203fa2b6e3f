/- Summaries of functions that IsaOpcodes comes to, held against their runs. No condition. -/
import Derived.Test.YtagaclifeoiepabDoorSIsaOpcodesb
namespace Go.Proofs.YtagaclifeoiepabDoor.isaOpcodes
open Go.Sx
set_option linter.unusedVariables false
set_option linter.unusedSimpArgs false
set_option maxRecDepth 1000000
def T71 : List (Nat × List Sm) := [(12, [sm70]), (25, [sm1, sm2, sm3, sm4, sm5, sm6, sm7, sm8, sm9, sm10, sm11, sm12, sm13, sm14, sm15, sm16, sm17, sm18, sm19, sm20, sm21, sm22, sm23, sm24, sm25, sm26, sm27, sm28, sm29, sm30, sm31, sm32, sm33, sm34, sm35, sm36, sm37, sm38, sm39, sm40, sm41, sm42, sm43, sm44, sm45, sm46, sm47, sm48, sm49, sm50, sm51, sm52, sm53, sm54, sm55, sm56, sm57, sm58, sm59, sm60, sm61, sm62, sm63, sm64, sm65, sm66, sm67, sm68, sm69]), (36, [sm0])]
theorem VT71 (G : Nat → Option Nat) (D : Hp) : AllV Tryd.prog G D T71 := ⟨fun sm h => by
  simp only [List.mem_cons, List.not_mem_nil, or_false] at h
  rcases h with rfl
  · exact sv70 G D, ⟨fun sm h => by
  simp only [List.mem_cons, List.not_mem_nil, or_false] at h
  rcases h with rfl | rfl | rfl | rfl | rfl | rfl | rfl | rfl | rfl | rfl | rfl | rfl | rfl | rfl | rfl | rfl | rfl | rfl | rfl | rfl | rfl | rfl | rfl | rfl | rfl | rfl | rfl | rfl | rfl | rfl | rfl | rfl | rfl | rfl | rfl | rfl | rfl | rfl | rfl | rfl | rfl | rfl | rfl | rfl | rfl | rfl | rfl | rfl | rfl | rfl | rfl | rfl | rfl | rfl | rfl | rfl | rfl | rfl | rfl | rfl | rfl | rfl | rfl | rfl | rfl | rfl | rfl | rfl | rfl
  · exact sv1 G D
  · exact sv2 G D
  · exact sv3 G D
  · exact sv4 G D
  · exact sv5 G D
  · exact sv6 G D
  · exact sv7 G D
  · exact sv8 G D
  · exact sv9 G D
  · exact sv10 G D
  · exact sv11 G D
  · exact sv12 G D
  · exact sv13 G D
  · exact sv14 G D
  · exact sv15 G D
  · exact sv16 G D
  · exact sv17 G D
  · exact sv18 G D
  · exact sv19 G D
  · exact sv20 G D
  · exact sv21 G D
  · exact sv22 G D
  · exact sv23 G D
  · exact sv24 G D
  · exact sv25 G D
  · exact sv26 G D
  · exact sv27 G D
  · exact sv28 G D
  · exact sv29 G D
  · exact sv30 G D
  · exact sv31 G D
  · exact sv32 G D
  · exact sv33 G D
  · exact sv34 G D
  · exact sv35 G D
  · exact sv36 G D
  · exact sv37 G D
  · exact sv38 G D
  · exact sv39 G D
  · exact sv40 G D
  · exact sv41 G D
  · exact sv42 G D
  · exact sv43 G D
  · exact sv44 G D
  · exact sv45 G D
  · exact sv46 G D
  · exact sv47 G D
  · exact sv48 G D
  · exact sv49 G D
  · exact sv50 G D
  · exact sv51 G D
  · exact sv52 G D
  · exact sv53 G D
  · exact sv54 G D
  · exact sv55 G D
  · exact sv56 G D
  · exact sv57 G D
  · exact sv58 G D
  · exact sv59 G D
  · exact sv60 G D
  · exact sv61 G D
  · exact sv62 G D
  · exact sv63 G D
  · exact sv64 G D
  · exact sv65 G D
  · exact sv66 G D
  · exact sv67 G D
  · exact sv68 G D
  · exact sv69 G D, ⟨fun sm h => by
  simp only [List.mem_cons, List.not_mem_nil, or_false] at h
  rcases h with rfl
  · exact sv0 G D, trivial⟩⟩⟩
noncomputable def M71 : TT (SV × SP) := evFnD (cfgT F (fun _ => none) hpE T71) 2000 20 (patAs 0 [(false, [(.int .i64)])]) ⟨hpE, seedCs (kindsOf [(false, [(.int .i64)])]) [0]⟩
def spc71 : PC := seedCs (kindsOf [(false, [(.int .i64)])]) [0]
def r71_0c0 : RT := (.node (.cmp .lss (.var 0) (.lit 1)) (.leaf (.tuple [(.agg [(.int .i64 (.lit 0)), (.str ⟨#[]⟩), (.int .i64 (.lit 0)), (.int .u32 (.lit 0)), (.int .u32 (.lit 0)), (.int .u32 (.lit 0)), (.int .i64 (.lit 0))]), (.bool (.lit false))]))
 (.node (.cmp .lss (.lit 69) (.var 0)) (.leaf (.tuple [(.agg [(.int .i64 (.lit 0)), (.str ⟨#[]⟩), (.int .i64 (.lit 0)), (.int .u32 (.lit 0)), (.int .u32 (.lit 0)), (.int .u32 (.lit 0)), (.int .i64 (.lit 0))]), (.bool (.lit false))]))
 (.node (.cmp .eql (.bin .sub .i64 (.var 0) (.lit 1)) (.lit 0)) (.leaf (.tuple [(.agg [(.int .i64 (.lit 1)), (.str ⟨#[108, 117, 105]⟩), (.int .i64 (.lit 0)), (.int .u32 (.lit 55)), (.int .u32 (.lit 0)), (.int .u32 (.lit 0)), (.int .i64 (.lit 1))]), (.bool (.lit true))]))
 (.node (.cmp .eql (.bin .sub .i64 (.var 0) (.lit 1)) (.lit 1)) (.leaf (.tuple [(.agg [(.int .i64 (.lit 2)), (.str ⟨#[97, 117, 105, 112, 99]⟩), (.int .i64 (.lit 0)), (.int .u32 (.lit 23)), (.int .u32 (.lit 0)), (.int .u32 (.lit 0)), (.int .i64 (.lit 1))]), (.bool (.lit true))]))
 (.node (.cmp .eql (.bin .sub .i64 (.var 0) (.lit 1)) (.lit 2)) (.leaf (.tuple [(.agg [(.int .i64 (.lit 3)), (.str ⟨#[106, 97, 108]⟩), (.int .i64 (.lit 1)), (.int .u32 (.lit 111)), (.int .u32 (.lit 0)), (.int .u32 (.lit 0)), (.int .i64 (.lit 2))]), (.bool (.lit true))]))
 (.node (.cmp .eql (.bin .sub .i64 (.var 0) (.lit 1)) (.lit 3)) (.leaf (.tuple [(.agg [(.int .i64 (.lit 4)), (.str ⟨#[106, 97, 108, 114]⟩), (.int .i64 (.lit 2)), (.int .u32 (.lit 103)), (.int .u32 (.lit 0)), (.int .u32 (.lit 0)), (.int .i64 (.lit 2))]), (.bool (.lit true))]))
 (.node (.cmp .eql (.bin .sub .i64 (.var 0) (.lit 1)) (.lit 4)) (.leaf (.tuple [(.agg [(.int .i64 (.lit 5)), (.str ⟨#[98, 101, 113]⟩), (.int .i64 (.lit 3)), (.int .u32 (.lit 99)), (.int .u32 (.lit 0)), (.int .u32 (.lit 0)), (.int .i64 (.lit 3))]), (.bool (.lit true))]))
 (.node (.cmp .eql (.bin .sub .i64 (.var 0) (.lit 1)) (.lit 5)) (.leaf (.tuple [(.agg [(.int .i64 (.lit 6)), (.str ⟨#[98, 110, 101]⟩), (.int .i64 (.lit 3)), (.int .u32 (.lit 99)), (.int .u32 (.lit 1)), (.int .u32 (.lit 0)), (.int .i64 (.lit 3))]), (.bool (.lit true))]))
 (.node (.cmp .eql (.bin .sub .i64 (.var 0) (.lit 1)) (.lit 6)) (.leaf (.tuple [(.agg [(.int .i64 (.lit 7)), (.str ⟨#[98, 108, 116]⟩), (.int .i64 (.lit 3)), (.int .u32 (.lit 99)), (.int .u32 (.lit 4)), (.int .u32 (.lit 0)), (.int .i64 (.lit 3))]), (.bool (.lit true))]))
 (.node (.cmp .eql (.bin .sub .i64 (.var 0) (.lit 1)) (.lit 7)) (.leaf (.tuple [(.agg [(.int .i64 (.lit 8)), (.str ⟨#[98, 103, 101]⟩), (.int .i64 (.lit 3)), (.int .u32 (.lit 99)), (.int .u32 (.lit 5)), (.int .u32 (.lit 0)), (.int .i64 (.lit 3))]), (.bool (.lit true))]))
 (.node (.cmp .eql (.bin .sub .i64 (.var 0) (.lit 1)) (.lit 8)) (.leaf (.tuple [(.agg [(.int .i64 (.lit 9)), (.str ⟨#[98, 108, 116, 117]⟩), (.int .i64 (.lit 3)), (.int .u32 (.lit 99)), (.int .u32 (.lit 6)), (.int .u32 (.lit 0)), (.int .i64 (.lit 3))]), (.bool (.lit true))]))
 (.node (.cmp .eql (.bin .sub .i64 (.var 0) (.lit 1)) (.lit 9)) (.leaf (.tuple [(.agg [(.int .i64 (.lit 10)), (.str ⟨#[98, 103, 101, 117]⟩), (.int .i64 (.lit 3)), (.int .u32 (.lit 99)), (.int .u32 (.lit 7)), (.int .u32 (.lit 0)), (.int .i64 (.lit 3))]), (.bool (.lit true))]))
 (.node (.cmp .eql (.bin .sub .i64 (.var 0) (.lit 1)) (.lit 10)) (.leaf (.tuple [(.agg [(.int .i64 (.lit 11)), (.str ⟨#[108, 98]⟩), (.int .i64 (.lit 2)), (.int .u32 (.lit 3)), (.int .u32 (.lit 0)), (.int .u32 (.lit 0)), (.int .i64 (.lit 4))]), (.bool (.lit true))]))
 (.node (.cmp .eql (.bin .sub .i64 (.var 0) (.lit 1)) (.lit 11)) (.leaf (.tuple [(.agg [(.int .i64 (.lit 12)), (.str ⟨#[108, 104]⟩), (.int .i64 (.lit 2)), (.int .u32 (.lit 3)), (.int .u32 (.lit 1)), (.int .u32 (.lit 0)), (.int .i64 (.lit 4))]), (.bool (.lit true))]))
 (.node (.cmp .eql (.bin .sub .i64 (.var 0) (.lit 1)) (.lit 12)) (.leaf (.tuple [(.agg [(.int .i64 (.lit 13)), (.str ⟨#[108, 119]⟩), (.int .i64 (.lit 2)), (.int .u32 (.lit 3)), (.int .u32 (.lit 2)), (.int .u32 (.lit 0)), (.int .i64 (.lit 4))]), (.bool (.lit true))]))
 (.node (.cmp .eql (.bin .sub .i64 (.var 0) (.lit 1)) (.lit 13)) (.leaf (.tuple [(.agg [(.int .i64 (.lit 14)), (.str ⟨#[108, 98, 117]⟩), (.int .i64 (.lit 2)), (.int .u32 (.lit 3)), (.int .u32 (.lit 4)), (.int .u32 (.lit 0)), (.int .i64 (.lit 4))]), (.bool (.lit true))]))
 (.node (.cmp .eql (.bin .sub .i64 (.var 0) (.lit 1)) (.lit 14)) (.leaf (.tuple [(.agg [(.int .i64 (.lit 15)), (.str ⟨#[108, 104, 117]⟩), (.int .i64 (.lit 2)), (.int .u32 (.lit 3)), (.int .u32 (.lit 5)), (.int .u32 (.lit 0)), (.int .i64 (.lit 4))]), (.bool (.lit true))]))
 (.node (.cmp .eql (.bin .sub .i64 (.var 0) (.lit 1)) (.lit 15)) (.leaf (.tuple [(.agg [(.int .i64 (.lit 16)), (.str ⟨#[115, 98]⟩), (.int .i64 (.lit 4)), (.int .u32 (.lit 35)), (.int .u32 (.lit 0)), (.int .u32 (.lit 0)), (.int .i64 (.lit 5))]), (.bool (.lit true))]))
 (.node (.cmp .eql (.bin .sub .i64 (.var 0) (.lit 1)) (.lit 16)) (.leaf (.tuple [(.agg [(.int .i64 (.lit 17)), (.str ⟨#[115, 104]⟩), (.int .i64 (.lit 4)), (.int .u32 (.lit 35)), (.int .u32 (.lit 1)), (.int .u32 (.lit 0)), (.int .i64 (.lit 5))]), (.bool (.lit true))]))
 (.node (.cmp .eql (.bin .sub .i64 (.var 0) (.lit 1)) (.lit 17)) (.leaf (.tuple [(.agg [(.int .i64 (.lit 18)), (.str ⟨#[115, 119]⟩), (.int .i64 (.lit 4)), (.int .u32 (.lit 35)), (.int .u32 (.lit 2)), (.int .u32 (.lit 0)), (.int .i64 (.lit 5))]), (.bool (.lit true))]))
 (.node (.cmp .eql (.bin .sub .i64 (.var 0) (.lit 1)) (.lit 18)) (.leaf (.tuple [(.agg [(.int .i64 (.lit 19)), (.str ⟨#[97, 100, 100, 105]⟩), (.int .i64 (.lit 2)), (.int .u32 (.lit 19)), (.int .u32 (.lit 0)), (.int .u32 (.lit 0)), (.int .i64 (.lit 1))]), (.bool (.lit true))]))
 (.node (.cmp .eql (.bin .sub .i64 (.var 0) (.lit 1)) (.lit 19)) (.leaf (.tuple [(.agg [(.int .i64 (.lit 20)), (.str ⟨#[115, 108, 116, 105]⟩), (.int .i64 (.lit 2)), (.int .u32 (.lit 19)), (.int .u32 (.lit 2)), (.int .u32 (.lit 0)), (.int .i64 (.lit 1))]), (.bool (.lit true))]))
 (.node (.cmp .eql (.bin .sub .i64 (.var 0) (.lit 1)) (.lit 20)) (.leaf (.tuple [(.agg [(.int .i64 (.lit 21)), (.str ⟨#[115, 108, 116, 105, 117]⟩), (.int .i64 (.lit 2)), (.int .u32 (.lit 19)), (.int .u32 (.lit 3)), (.int .u32 (.lit 0)), (.int .i64 (.lit 1))]), (.bool (.lit true))]))
 (.node (.cmp .eql (.bin .sub .i64 (.var 0) (.lit 1)) (.lit 21)) (.leaf (.tuple [(.agg [(.int .i64 (.lit 22)), (.str ⟨#[120, 111, 114, 105]⟩), (.int .i64 (.lit 2)), (.int .u32 (.lit 19)), (.int .u32 (.lit 4)), (.int .u32 (.lit 0)), (.int .i64 (.lit 1))]), (.bool (.lit true))]))
 (.node (.cmp .eql (.bin .sub .i64 (.var 0) (.lit 1)) (.lit 22)) (.leaf (.tuple [(.agg [(.int .i64 (.lit 23)), (.str ⟨#[111, 114, 105]⟩), (.int .i64 (.lit 2)), (.int .u32 (.lit 19)), (.int .u32 (.lit 6)), (.int .u32 (.lit 0)), (.int .i64 (.lit 1))]), (.bool (.lit true))]))
 (.node (.cmp .eql (.bin .sub .i64 (.var 0) (.lit 1)) (.lit 23)) (.leaf (.tuple [(.agg [(.int .i64 (.lit 24)), (.str ⟨#[97, 110, 100, 105]⟩), (.int .i64 (.lit 2)), (.int .u32 (.lit 19)), (.int .u32 (.lit 7)), (.int .u32 (.lit 0)), (.int .i64 (.lit 1))]), (.bool (.lit true))]))
 (.node (.cmp .eql (.bin .sub .i64 (.var 0) (.lit 1)) (.lit 24)) (.leaf (.tuple [(.agg [(.int .i64 (.lit 25)), (.str ⟨#[115, 108, 108, 105]⟩), (.int .i64 (.lit 5)), (.int .u32 (.lit 19)), (.int .u32 (.lit 1)), (.int .u32 (.lit 0)), (.int .i64 (.lit 1))]), (.bool (.lit true))]))
 (.node (.cmp .eql (.bin .sub .i64 (.var 0) (.lit 1)) (.lit 25)) (.leaf (.tuple [(.agg [(.int .i64 (.lit 26)), (.str ⟨#[115, 114, 108, 105]⟩), (.int .i64 (.lit 5)), (.int .u32 (.lit 19)), (.int .u32 (.lit 5)), (.int .u32 (.lit 0)), (.int .i64 (.lit 1))]), (.bool (.lit true))]))
 (.node (.cmp .eql (.bin .sub .i64 (.var 0) (.lit 1)) (.lit 26)) (.leaf (.tuple [(.agg [(.int .i64 (.lit 27)), (.str ⟨#[115, 114, 97, 105]⟩), (.int .i64 (.lit 5)), (.int .u32 (.lit 19)), (.int .u32 (.lit 5)), (.int .u32 (.lit 32)), (.int .i64 (.lit 1))]), (.bool (.lit true))]))
 (.node (.cmp .eql (.bin .sub .i64 (.var 0) (.lit 1)) (.lit 27)) (.leaf (.tuple [(.agg [(.int .i64 (.lit 28)), (.str ⟨#[97, 100, 100]⟩), (.int .i64 (.lit 6)), (.int .u32 (.lit 51)), (.int .u32 (.lit 0)), (.int .u32 (.lit 0)), (.int .i64 (.lit 1))]), (.bool (.lit true))]))
 (.node (.cmp .eql (.bin .sub .i64 (.var 0) (.lit 1)) (.lit 28)) (.leaf (.tuple [(.agg [(.int .i64 (.lit 29)), (.str ⟨#[115, 117, 98]⟩), (.int .i64 (.lit 6)), (.int .u32 (.lit 51)), (.int .u32 (.lit 0)), (.int .u32 (.lit 32)), (.int .i64 (.lit 1))]), (.bool (.lit true))]))
 (.node (.cmp .eql (.bin .sub .i64 (.var 0) (.lit 1)) (.lit 29)) (.leaf (.tuple [(.agg [(.int .i64 (.lit 30)), (.str ⟨#[115, 108, 108]⟩), (.int .i64 (.lit 6)), (.int .u32 (.lit 51)), (.int .u32 (.lit 1)), (.int .u32 (.lit 0)), (.int .i64 (.lit 1))]), (.bool (.lit true))]))
 (.node (.cmp .eql (.bin .sub .i64 (.var 0) (.lit 1)) (.lit 30)) (.leaf (.tuple [(.agg [(.int .i64 (.lit 31)), (.str ⟨#[115, 108, 116]⟩), (.int .i64 (.lit 6)), (.int .u32 (.lit 51)), (.int .u32 (.lit 2)), (.int .u32 (.lit 0)), (.int .i64 (.lit 1))]), (.bool (.lit true))]))
 (.node (.cmp .eql (.bin .sub .i64 (.var 0) (.lit 1)) (.lit 31)) (.leaf (.tuple [(.agg [(.int .i64 (.lit 32)), (.str ⟨#[115, 108, 116, 117]⟩), (.int .i64 (.lit 6)), (.int .u32 (.lit 51)), (.int .u32 (.lit 3)), (.int .u32 (.lit 0)), (.int .i64 (.lit 1))]), (.bool (.lit true))]))
 (.node (.cmp .eql (.bin .sub .i64 (.var 0) (.lit 1)) (.lit 32)) (.leaf (.tuple [(.agg [(.int .i64 (.lit 33)), (.str ⟨#[120, 111, 114]⟩), (.int .i64 (.lit 6)), (.int .u32 (.lit 51)), (.int .u32 (.lit 4)), (.int .u32 (.lit 0)), (.int .i64 (.lit 1))]), (.bool (.lit true))]))
 (.node (.cmp .eql (.bin .sub .i64 (.var 0) (.lit 1)) (.lit 33)) (.leaf (.tuple [(.agg [(.int .i64 (.lit 34)), (.str ⟨#[115, 114, 108]⟩), (.int .i64 (.lit 6)), (.int .u32 (.lit 51)), (.int .u32 (.lit 5)), (.int .u32 (.lit 0)), (.int .i64 (.lit 1))]), (.bool (.lit true))]))
 (.node (.cmp .eql (.bin .sub .i64 (.var 0) (.lit 1)) (.lit 34)) (.leaf (.tuple [(.agg [(.int .i64 (.lit 35)), (.str ⟨#[115, 114, 97]⟩), (.int .i64 (.lit 6)), (.int .u32 (.lit 51)), (.int .u32 (.lit 5)), (.int .u32 (.lit 32)), (.int .i64 (.lit 1))]), (.bool (.lit true))]))
 (.node (.cmp .eql (.bin .sub .i64 (.var 0) (.lit 1)) (.lit 35)) (.leaf (.tuple [(.agg [(.int .i64 (.lit 36)), (.str ⟨#[111, 114]⟩), (.int .i64 (.lit 6)), (.int .u32 (.lit 51)), (.int .u32 (.lit 6)), (.int .u32 (.lit 0)), (.int .i64 (.lit 1))]), (.bool (.lit true))]))
 (.node (.cmp .eql (.bin .sub .i64 (.var 0) (.lit 1)) (.lit 36)) (.leaf (.tuple [(.agg [(.int .i64 (.lit 37)), (.str ⟨#[97, 110, 100]⟩), (.int .i64 (.lit 6)), (.int .u32 (.lit 51)), (.int .u32 (.lit 7)), (.int .u32 (.lit 0)), (.int .i64 (.lit 1))]), (.bool (.lit true))]))
 (.node (.cmp .eql (.bin .sub .i64 (.var 0) (.lit 1)) (.lit 37)) (.leaf (.tuple [(.agg [(.int .i64 (.lit 38)), (.str ⟨#[102, 101, 110, 99, 101]⟩), (.int .i64 (.lit 7)), (.int .u32 (.lit 15)), (.int .u32 (.lit 0)), (.int .u32 (.lit 0)), (.int .i64 (.lit 7))]), (.bool (.lit true))]))
 (.node (.cmp .eql (.bin .sub .i64 (.var 0) (.lit 1)) (.lit 38)) (.leaf (.tuple [(.agg [(.int .i64 (.lit 39)), (.str ⟨#[102, 101, 110, 99, 101, 46, 105]⟩), (.int .i64 (.lit 8)), (.int .u32 (.lit 4111)), (.int .u32 (.lit 0)), (.int .u32 (.lit 0)), (.int .i64 (.lit 7))]), (.bool (.lit true))]))
 (.node (.cmp .eql (.bin .sub .i64 (.var 0) (.lit 1)) (.lit 39)) (.leaf (.tuple [(.agg [(.int .i64 (.lit 40)), (.str ⟨#[101, 99, 97, 108, 108]⟩), (.int .i64 (.lit 8)), (.int .u32 (.lit 115)), (.int .u32 (.lit 0)), (.int .u32 (.lit 0)), (.int .i64 (.lit 7))]), (.bool (.lit true))]))
 (.node (.cmp .eql (.bin .sub .i64 (.var 0) (.lit 1)) (.lit 40)) (.leaf (.tuple [(.agg [(.int .i64 (.lit 41)), (.str ⟨#[101, 98, 114, 101, 97, 107]⟩), (.int .i64 (.lit 8)), (.int .u32 (.lit 1048691)), (.int .u32 (.lit 0)), (.int .u32 (.lit 0)), (.int .i64 (.lit 7))]), (.bool (.lit true))]))
 (.node (.cmp .eql (.bin .sub .i64 (.var 0) (.lit 1)) (.lit 41)) (.leaf (.tuple [(.agg [(.int .i64 (.lit 42)), (.str ⟨#[109, 114, 101, 116]⟩), (.int .i64 (.lit 8)), (.int .u32 (.lit 807403635)), (.int .u32 (.lit 0)), (.int .u32 (.lit 0)), (.int .i64 (.lit 7))]), (.bool (.lit true))]))
 (.node (.cmp .eql (.bin .sub .i64 (.var 0) (.lit 1)) (.lit 42)) (.leaf (.tuple [(.agg [(.int .i64 (.lit 43)), (.str ⟨#[119, 102, 105]⟩), (.int .i64 (.lit 8)), (.int .u32 (.lit 273678451)), (.int .u32 (.lit 0)), (.int .u32 (.lit 0)), (.int .i64 (.lit 7))]), (.bool (.lit true))]))
 (.node (.cmp .eql (.bin .sub .i64 (.var 0) (.lit 1)) (.lit 43)) (.leaf (.tuple [(.agg [(.int .i64 (.lit 44)), (.str ⟨#[115, 102, 101, 110, 99, 101, 46, 118, 109, 97]⟩), (.int .i64 (.lit 9)), (.int .u32 (.lit 115)), (.int .u32 (.lit 0)), (.int .u32 (.lit 9)), (.int .i64 (.lit 7))]), (.bool (.lit true))]))
 (.node (.cmp .eql (.bin .sub .i64 (.var 0) (.lit 1)) (.lit 44)) (.leaf (.tuple [(.agg [(.int .i64 (.lit 45)), (.str ⟨#[99, 115, 114, 114, 119]⟩), (.int .i64 (.lit 10)), (.int .u32 (.lit 115)), (.int .u32 (.lit 1)), (.int .u32 (.lit 0)), (.int .i64 (.lit 7))]), (.bool (.lit true))]))
 (.node (.cmp .eql (.bin .sub .i64 (.var 0) (.lit 1)) (.lit 45)) (.leaf (.tuple [(.agg [(.int .i64 (.lit 46)), (.str ⟨#[99, 115, 114, 114, 115]⟩), (.int .i64 (.lit 10)), (.int .u32 (.lit 115)), (.int .u32 (.lit 2)), (.int .u32 (.lit 0)), (.int .i64 (.lit 7))]), (.bool (.lit true))]))
 (.node (.cmp .eql (.bin .sub .i64 (.var 0) (.lit 1)) (.lit 46)) (.leaf (.tuple [(.agg [(.int .i64 (.lit 47)), (.str ⟨#[99, 115, 114, 114, 99]⟩), (.int .i64 (.lit 10)), (.int .u32 (.lit 115)), (.int .u32 (.lit 3)), (.int .u32 (.lit 0)), (.int .i64 (.lit 7))]), (.bool (.lit true))]))
 (.node (.cmp .eql (.bin .sub .i64 (.var 0) (.lit 1)) (.lit 47)) (.leaf (.tuple [(.agg [(.int .i64 (.lit 48)), (.str ⟨#[99, 115, 114, 114, 119, 105]⟩), (.int .i64 (.lit 11)), (.int .u32 (.lit 115)), (.int .u32 (.lit 5)), (.int .u32 (.lit 0)), (.int .i64 (.lit 7))]), (.bool (.lit true))]))
 .dead))))))))))))))))))))))))))))))))))))))))))))))))))
theorem r71_0k0 : r71_0c0.ok 0 M71 spc71 = true := by kernel_rfl
noncomputable def r71_0M0 : TT (SV × SP) := M71.go [false, false, false, false, false, false, false, false, false, false, false, false, false, false, false, false, false, false, false, false, false, false, false, false, false, false, false, false, false, false, false, false, false, false, false, false, false, false, false, false, false, false, false, false, false, false, false, false, false, false]
def r71_0p0 : PC := r71_0c0.pcAt [false, false, false, false, false, false, false, false, false, false, false, false, false, false, false, false, false, false, false, false, false, false, false, false, false, false, false, false, false, false, false, false, false, false, false, false, false, false, false, false, false, false, false, false, false, false, false, false, false, false] spc71
def r71_1c0 : RT := (.node (.cmp .eql (.bin .sub .i64 (.var 0) (.lit 1)) (.lit 48)) (.leaf (.tuple [(.agg [(.int .i64 (.lit 49)), (.str ⟨#[99, 115, 114, 114, 115, 105]⟩), (.int .i64 (.lit 11)), (.int .u32 (.lit 115)), (.int .u32 (.lit 6)), (.int .u32 (.lit 0)), (.int .i64 (.lit 7))]), (.bool (.lit true))]))
 (.node (.cmp .eql (.bin .sub .i64 (.var 0) (.lit 1)) (.lit 49)) (.leaf (.tuple [(.agg [(.int .i64 (.lit 50)), (.str ⟨#[99, 115, 114, 114, 99, 105]⟩), (.int .i64 (.lit 11)), (.int .u32 (.lit 115)), (.int .u32 (.lit 7)), (.int .u32 (.lit 0)), (.int .i64 (.lit 7))]), (.bool (.lit true))]))
 (.node (.cmp .eql (.bin .sub .i64 (.var 0) (.lit 1)) (.lit 50)) (.leaf (.tuple [(.agg [(.int .i64 (.lit 51)), (.str ⟨#[109, 117, 108]⟩), (.int .i64 (.lit 6)), (.int .u32 (.lit 51)), (.int .u32 (.lit 0)), (.int .u32 (.lit 1)), (.int .i64 (.lit 1))]), (.bool (.lit true))]))
 (.node (.cmp .eql (.bin .sub .i64 (.var 0) (.lit 1)) (.lit 51)) (.leaf (.tuple [(.agg [(.int .i64 (.lit 52)), (.str ⟨#[109, 117, 108, 104]⟩), (.int .i64 (.lit 6)), (.int .u32 (.lit 51)), (.int .u32 (.lit 1)), (.int .u32 (.lit 1)), (.int .i64 (.lit 1))]), (.bool (.lit true))]))
 (.node (.cmp .eql (.bin .sub .i64 (.var 0) (.lit 1)) (.lit 52)) (.leaf (.tuple [(.agg [(.int .i64 (.lit 53)), (.str ⟨#[109, 117, 108, 104, 115, 117]⟩), (.int .i64 (.lit 6)), (.int .u32 (.lit 51)), (.int .u32 (.lit 2)), (.int .u32 (.lit 1)), (.int .i64 (.lit 1))]), (.bool (.lit true))]))
 (.node (.cmp .eql (.bin .sub .i64 (.var 0) (.lit 1)) (.lit 53)) (.leaf (.tuple [(.agg [(.int .i64 (.lit 54)), (.str ⟨#[109, 117, 108, 104, 117]⟩), (.int .i64 (.lit 6)), (.int .u32 (.lit 51)), (.int .u32 (.lit 3)), (.int .u32 (.lit 1)), (.int .i64 (.lit 1))]), (.bool (.lit true))]))
 (.node (.cmp .eql (.bin .sub .i64 (.var 0) (.lit 1)) (.lit 54)) (.leaf (.tuple [(.agg [(.int .i64 (.lit 55)), (.str ⟨#[100, 105, 118]⟩), (.int .i64 (.lit 6)), (.int .u32 (.lit 51)), (.int .u32 (.lit 4)), (.int .u32 (.lit 1)), (.int .i64 (.lit 1))]), (.bool (.lit true))]))
 (.node (.cmp .eql (.bin .sub .i64 (.var 0) (.lit 1)) (.lit 55)) (.leaf (.tuple [(.agg [(.int .i64 (.lit 56)), (.str ⟨#[100, 105, 118, 117]⟩), (.int .i64 (.lit 6)), (.int .u32 (.lit 51)), (.int .u32 (.lit 5)), (.int .u32 (.lit 1)), (.int .i64 (.lit 1))]), (.bool (.lit true))]))
 (.node (.cmp .eql (.bin .sub .i64 (.var 0) (.lit 1)) (.lit 56)) (.leaf (.tuple [(.agg [(.int .i64 (.lit 57)), (.str ⟨#[114, 101, 109]⟩), (.int .i64 (.lit 6)), (.int .u32 (.lit 51)), (.int .u32 (.lit 6)), (.int .u32 (.lit 1)), (.int .i64 (.lit 1))]), (.bool (.lit true))]))
 (.node (.cmp .eql (.bin .sub .i64 (.var 0) (.lit 1)) (.lit 57)) (.leaf (.tuple [(.agg [(.int .i64 (.lit 58)), (.str ⟨#[114, 101, 109, 117]⟩), (.int .i64 (.lit 6)), (.int .u32 (.lit 51)), (.int .u32 (.lit 7)), (.int .u32 (.lit 1)), (.int .i64 (.lit 1))]), (.bool (.lit true))]))
 (.node (.cmp .eql (.bin .sub .i64 (.var 0) (.lit 1)) (.lit 58)) (.leaf (.tuple [(.agg [(.int .i64 (.lit 59)), (.str ⟨#[108, 114, 46, 119]⟩), (.int .i64 (.lit 12)), (.int .u32 (.lit 47)), (.int .u32 (.lit 2)), (.int .u32 (.lit 2)), (.int .i64 (.lit 4))]), (.bool (.lit true))]))
 (.node (.cmp .eql (.bin .sub .i64 (.var 0) (.lit 1)) (.lit 59)) (.leaf (.tuple [(.agg [(.int .i64 (.lit 60)), (.str ⟨#[115, 99, 46, 119]⟩), (.int .i64 (.lit 13)), (.int .u32 (.lit 47)), (.int .u32 (.lit 2)), (.int .u32 (.lit 3)), (.int .i64 (.lit 6))]), (.bool (.lit true))]))
 (.node (.cmp .eql (.bin .sub .i64 (.var 0) (.lit 1)) (.lit 60)) (.leaf (.tuple [(.agg [(.int .i64 (.lit 61)), (.str ⟨#[97, 109, 111, 115, 119, 97, 112, 46, 119]⟩), (.int .i64 (.lit 13)), (.int .u32 (.lit 47)), (.int .u32 (.lit 2)), (.int .u32 (.lit 1)), (.int .i64 (.lit 6))]), (.bool (.lit true))]))
 (.node (.cmp .eql (.bin .sub .i64 (.var 0) (.lit 1)) (.lit 61)) (.leaf (.tuple [(.agg [(.int .i64 (.lit 62)), (.str ⟨#[97, 109, 111, 97, 100, 100, 46, 119]⟩), (.int .i64 (.lit 13)), (.int .u32 (.lit 47)), (.int .u32 (.lit 2)), (.int .u32 (.lit 0)), (.int .i64 (.lit 6))]), (.bool (.lit true))]))
 (.node (.cmp .eql (.bin .sub .i64 (.var 0) (.lit 1)) (.lit 62)) (.leaf (.tuple [(.agg [(.int .i64 (.lit 63)), (.str ⟨#[97, 109, 111, 120, 111, 114, 46, 119]⟩), (.int .i64 (.lit 13)), (.int .u32 (.lit 47)), (.int .u32 (.lit 2)), (.int .u32 (.lit 4)), (.int .i64 (.lit 6))]), (.bool (.lit true))]))
 (.node (.cmp .eql (.bin .sub .i64 (.var 0) (.lit 1)) (.lit 63)) (.leaf (.tuple [(.agg [(.int .i64 (.lit 64)), (.str ⟨#[97, 109, 111, 97, 110, 100, 46, 119]⟩), (.int .i64 (.lit 13)), (.int .u32 (.lit 47)), (.int .u32 (.lit 2)), (.int .u32 (.lit 12)), (.int .i64 (.lit 6))]), (.bool (.lit true))]))
 (.node (.cmp .eql (.bin .sub .i64 (.var 0) (.lit 1)) (.lit 64)) (.leaf (.tuple [(.agg [(.int .i64 (.lit 65)), (.str ⟨#[97, 109, 111, 111, 114, 46, 119]⟩), (.int .i64 (.lit 13)), (.int .u32 (.lit 47)), (.int .u32 (.lit 2)), (.int .u32 (.lit 8)), (.int .i64 (.lit 6))]), (.bool (.lit true))]))
 (.node (.cmp .eql (.bin .sub .i64 (.var 0) (.lit 1)) (.lit 65)) (.leaf (.tuple [(.agg [(.int .i64 (.lit 66)), (.str ⟨#[97, 109, 111, 109, 105, 110, 46, 119]⟩), (.int .i64 (.lit 13)), (.int .u32 (.lit 47)), (.int .u32 (.lit 2)), (.int .u32 (.lit 16)), (.int .i64 (.lit 6))]), (.bool (.lit true))]))
 (.node (.cmp .eql (.bin .sub .i64 (.var 0) (.lit 1)) (.lit 66)) (.leaf (.tuple [(.agg [(.int .i64 (.lit 67)), (.str ⟨#[97, 109, 111, 109, 97, 120, 46, 119]⟩), (.int .i64 (.lit 13)), (.int .u32 (.lit 47)), (.int .u32 (.lit 2)), (.int .u32 (.lit 20)), (.int .i64 (.lit 6))]), (.bool (.lit true))]))
 (.node (.cmp .eql (.bin .sub .i64 (.var 0) (.lit 1)) (.lit 67)) (.leaf (.tuple [(.agg [(.int .i64 (.lit 68)), (.str ⟨#[97, 109, 111, 109, 105, 110, 117, 46, 119]⟩), (.int .i64 (.lit 13)), (.int .u32 (.lit 47)), (.int .u32 (.lit 2)), (.int .u32 (.lit 24)), (.int .i64 (.lit 6))]), (.bool (.lit true))]))
 (.node (.cmp .eql (.bin .sub .i64 (.var 0) (.lit 1)) (.lit 68)) (.leaf (.tuple [(.agg [(.int .i64 (.lit 69)), (.str ⟨#[97, 109, 111, 109, 97, 120, 117, 46, 119]⟩), (.int .i64 (.lit 13)), (.int .u32 (.lit 47)), (.int .u32 (.lit 2)), (.int .u32 (.lit 28)), (.int .i64 (.lit 6))]), (.bool (.lit true))]))
 .dead)))))))))))))))))))))
theorem r71_1k0 : r71_1c0.ok 0 r71_0M0 r71_0p0 = true := by kernel_rfl
def r71_0c1 : RT := r71_0c0.plug [false, false, false, false, false, false, false, false, false, false, false, false, false, false, false, false, false, false, false, false, false, false, false, false, false, false, false, false, false, false, false, false, false, false, false, false, false, false, false, false, false, false, false, false, false, false, false, false, false, false] r71_1c0
theorem r71_0k1 : r71_0c1.ok 0 M71 spc71 = true := RT.ok_plug (p := [false, false, false, false, false, false, false, false, false, false, false, false, false, false, false, false, false, false, false, false, false, false, false, false, false, false, false, false, false, false, false, false, false, false, false, false, false, false, false, false, false, false, false, false, false, false, false, false, false, false]) r71_0k0 r71_1k0
def sm71 : Sm := ⟨[(false, [(.int .i64)])], [0], false, r71_0c1⟩
theorem sv71 (G : Nat → Option Nat) (D : Hp) : SmValid Tryd.prog (GofSm G sm71) (DofSm D sm71) 20 sm71 := smValid0 (T := T71) (fuel := 2000) mixed hF (VT71 _ _) rfl r71_0k1
def TL : List (Nat × List Sm) := [(20, [sm71]), (12, [sm70]), (25, [sm1, sm2, sm3, sm4, sm5, sm6, sm7, sm8, sm9, sm10, sm11, sm12, sm13, sm14, sm15, sm16, sm17, sm18, sm19, sm20, sm21, sm22, sm23, sm24, sm25, sm26, sm27, sm28, sm29, sm30, sm31, sm32, sm33, sm34, sm35, sm36, sm37, sm38, sm39, sm40, sm41, sm42, sm43, sm44, sm45, sm46, sm47, sm48, sm49, sm50, sm51, sm52, sm53, sm54, sm55, sm56, sm57, sm58, sm59, sm60, sm61, sm62, sm63, sm64, sm65, sm66, sm67, sm68, sm69]), (36, [sm0])]
theorem VTL : AllV Tryd.prog G doorH TL := ⟨fun sm h => by
  simp only [List.mem_cons, List.not_mem_nil, or_false] at h
  rcases h with rfl
  · exact sv71 G doorH, ⟨fun sm h => by
  simp only [List.mem_cons, List.not_mem_nil, or_false] at h
  rcases h with rfl
  · exact sv70 G doorH, ⟨fun sm h => by
  simp only [List.mem_cons, List.not_mem_nil, or_false] at h
  rcases h with rfl | rfl | rfl | rfl | rfl | rfl | rfl | rfl | rfl | rfl | rfl | rfl | rfl | rfl | rfl | rfl | rfl | rfl | rfl | rfl | rfl | rfl | rfl | rfl | rfl | rfl | rfl | rfl | rfl | rfl | rfl | rfl | rfl | rfl | rfl | rfl | rfl | rfl | rfl | rfl | rfl | rfl | rfl | rfl | rfl | rfl | rfl | rfl | rfl | rfl | rfl | rfl | rfl | rfl | rfl | rfl | rfl | rfl | rfl | rfl | rfl | rfl | rfl | rfl | rfl | rfl | rfl | rfl | rfl
  · exact sv1 G doorH
  · exact sv2 G doorH
  · exact sv3 G doorH
  · exact sv4 G doorH
  · exact sv5 G doorH
  · exact sv6 G doorH
  · exact sv7 G doorH
  · exact sv8 G doorH
  · exact sv9 G doorH
  · exact sv10 G doorH
  · exact sv11 G doorH
  · exact sv12 G doorH
  · exact sv13 G doorH
  · exact sv14 G doorH
  · exact sv15 G doorH
  · exact sv16 G doorH
  · exact sv17 G doorH
  · exact sv18 G doorH
  · exact sv19 G doorH
  · exact sv20 G doorH
  · exact sv21 G doorH
  · exact sv22 G doorH
  · exact sv23 G doorH
  · exact sv24 G doorH
  · exact sv25 G doorH
  · exact sv26 G doorH
  · exact sv27 G doorH
  · exact sv28 G doorH
  · exact sv29 G doorH
  · exact sv30 G doorH
  · exact sv31 G doorH
  · exact sv32 G doorH
  · exact sv33 G doorH
  · exact sv34 G doorH
  · exact sv35 G doorH
  · exact sv36 G doorH
  · exact sv37 G doorH
  · exact sv38 G doorH
  · exact sv39 G doorH
  · exact sv40 G doorH
  · exact sv41 G doorH
  · exact sv42 G doorH
  · exact sv43 G doorH
  · exact sv44 G doorH
  · exact sv45 G doorH
  · exact sv46 G doorH
  · exact sv47 G doorH
  · exact sv48 G doorH
  · exact sv49 G doorH
  · exact sv50 G doorH
  · exact sv51 G doorH
  · exact sv52 G doorH
  · exact sv53 G doorH
  · exact sv54 G doorH
  · exact sv55 G doorH
  · exact sv56 G doorH
  · exact sv57 G doorH
  · exact sv58 G doorH
  · exact sv59 G doorH
  · exact sv60 G doorH
  · exact sv61 G doorH
  · exact sv62 G doorH
  · exact sv63 G doorH
  · exact sv64 G doorH
  · exact sv65 G doorH
  · exact sv66 G doorH
  · exact sv67 G doorH
  · exact sv68 G doorH
  · exact sv69 G doorH, ⟨fun sm h => by
  simp only [List.mem_cons, List.not_mem_nil, or_false] at h
  rcases h with rfl
  · exact sv0 G doorH, trivial⟩⟩⟩⟩
noncomputable def CL : Cfg := cfgT F G doorH TL
end Go.Proofs.YtagaclifeoiepabDoor.isaOpcodes

/- Summaries of functions that SeqHolds comes to, held against their runs. No condition. -/
import Derived.Test.YtaclekenckkgcaaGreatDoorSSeqHoldsa
namespace Go.Proofs.YtaclekenckkgcaaGreatDoor.seqHolds
open Go.Sx
set_option linter.unusedVariables false
set_option linter.unusedSimpArgs false
set_option maxRecDepth 1000000
def T59 : List (Nat × List Sm) := [(88, [sm53, sm54, sm55, sm56, sm57, sm58]), (17, [sm51, sm52]), (9, [sm30, sm31, sm32, sm33, sm34, sm35, sm36, sm37, sm38, sm39, sm40, sm41, sm42, sm43, sm44, sm45, sm46, sm47, sm48, sm49, sm50]), (57, [sm8, sm9, sm10, sm11, sm12, sm13, sm14, sm15, sm16, sm17, sm18, sm19, sm20, sm21, sm22, sm23, sm24, sm25, sm26, sm27, sm28, sm29]), (78, [sm0, sm1, sm2, sm3, sm4, sm5, sm6, sm7])]
theorem VT59 (G : Nat → Option Nat) (D : Hp) : AllV Tryz.prog G D T59 := ⟨fun sm h => by
  simp only [List.mem_cons, List.not_mem_nil, or_false] at h
  rcases h with rfl | rfl | rfl | rfl | rfl | rfl
  · exact sv53 G D
  · exact sv54 G D
  · exact sv55 G D
  · exact sv56 G D
  · exact sv57 G D
  · exact sv58 G D, ⟨fun sm h => by
  simp only [List.mem_cons, List.not_mem_nil, or_false] at h
  rcases h with rfl | rfl
  · exact sv51 G D
  · exact sv52 G D, ⟨fun sm h => by
  simp only [List.mem_cons, List.not_mem_nil, or_false] at h
  rcases h with rfl | rfl | rfl | rfl | rfl | rfl | rfl | rfl | rfl | rfl | rfl | rfl | rfl | rfl | rfl | rfl | rfl | rfl | rfl | rfl | rfl
  · exact sv30 G D
  · exact sv31 G D
  · exact sv32 G D
  · exact sv33 G D
  · exact sv34 G D
  · exact sv35 G D
  · exact sv36 G D
  · exact sv37 G D
  · exact sv38 G D
  · exact sv39 G D
  · exact sv40 G D
  · exact sv41 G D
  · exact sv42 G D
  · exact sv43 G D
  · exact sv44 G D
  · exact sv45 G D
  · exact sv46 G D
  · exact sv47 G D
  · exact sv48 G D
  · exact sv49 G D
  · exact sv50 G D, ⟨fun sm h => by
  simp only [List.mem_cons, List.not_mem_nil, or_false] at h
  rcases h with rfl | rfl | rfl | rfl | rfl | rfl | rfl | rfl | rfl | rfl | rfl | rfl | rfl | rfl | rfl | rfl | rfl | rfl | rfl | rfl | rfl | rfl
  · exact sv8 G D
  · exact sv9 G D
  · exact sv10 G D
  · exact sv11 G D
  · exact sv12 G D
  · exact sv13 G D
  · exact sv14 G D
  · exact sv15 G D
  · exact sv16 G D
  · exact sv17 G D
  · exact sv18 G D
  · exact sv19 G D
  · exact sv20 G D
  · exact sv21 G D
  · exact sv22 G D
  · exact sv23 G D
  · exact sv24 G D
  · exact sv25 G D
  · exact sv26 G D
  · exact sv27 G D
  · exact sv28 G D
  · exact sv29 G D, ⟨fun sm h => by
  simp only [List.mem_cons, List.not_mem_nil, or_false] at h
  rcases h with rfl | rfl | rfl | rfl | rfl | rfl | rfl | rfl
  · exact sv0 G D
  · exact sv1 G D
  · exact sv2 G D
  · exact sv3 G D
  · exact sv4 G D
  · exact sv5 G D
  · exact sv6 G D
  · exact sv7 G D, trivial⟩⟩⟩⟩⟩
noncomputable def M59 : TT (SV × SP) := evFnD (cfgT F (fun _ => none) hpE T59) 2000 88 (patAs 0 [(false, [(.lit (.int .u32 (.lit 0)))]), (false, [(.lit (.int .i64 (.lit 3)))]), (false, [(.lit (.int .u32 (.lit 12)))]), (false, [(.lit (.int .i64 (.lit 1)))]), (false, [(.lit (.int .i64 (.lit 512)))]), (false, [(.lit .nilSlice)])]) ⟨hpE, []⟩
def spc59 : PC := []
def r59_0c0 : RT := (.leaf (.agg [(.int .i64 (.lit 1)), (.int .u32 (.lit 12)), (.int .u32 (.lit 0)), (.int .u32 (.lit 0)), (.int .u32 (.lit 0))]))
theorem r59_0k0 : r59_0c0.ok 0 M59 spc59 = true := by kernel_rfl
def sm59 : Sm := ⟨[(false, [(.lit (.int .u32 (.lit 0)))]), (false, [(.lit (.int .i64 (.lit 3)))]), (false, [(.lit (.int .u32 (.lit 12)))]), (false, [(.lit (.int .i64 (.lit 1)))]), (false, [(.lit (.int .i64 (.lit 512)))]), (false, [(.lit .nilSlice)])], false, r59_0c0⟩
theorem sv59 (G : Nat → Option Nat) (D : Hp) : SmValid Tryz.prog (GofSm G sm59) (DofSm D sm59) 88 sm59 := smValid0 (T := T59) (fuel := 2000) mixed hF (VT59 _ _) rfl r59_0k0
def T60 : List (Nat × List Sm) := [(88, [sm53, sm54, sm55, sm56, sm57, sm58, sm59]), (17, [sm51, sm52]), (9, [sm30, sm31, sm32, sm33, sm34, sm35, sm36, sm37, sm38, sm39, sm40, sm41, sm42, sm43, sm44, sm45, sm46, sm47, sm48, sm49, sm50]), (57, [sm8, sm9, sm10, sm11, sm12, sm13, sm14, sm15, sm16, sm17, sm18, sm19, sm20, sm21, sm22, sm23, sm24, sm25, sm26, sm27, sm28, sm29]), (78, [sm0, sm1, sm2, sm3, sm4, sm5, sm6, sm7])]
theorem VT60 (G : Nat → Option Nat) (D : Hp) : AllV Tryz.prog G D T60 := ⟨fun sm h => by
  simp only [List.mem_cons, List.not_mem_nil, or_false] at h
  rcases h with rfl | rfl | rfl | rfl | rfl | rfl | rfl
  · exact sv53 G D
  · exact sv54 G D
  · exact sv55 G D
  · exact sv56 G D
  · exact sv57 G D
  · exact sv58 G D
  · exact sv59 G D, ⟨fun sm h => by
  simp only [List.mem_cons, List.not_mem_nil, or_false] at h
  rcases h with rfl | rfl
  · exact sv51 G D
  · exact sv52 G D, ⟨fun sm h => by
  simp only [List.mem_cons, List.not_mem_nil, or_false] at h
  rcases h with rfl | rfl | rfl | rfl | rfl | rfl | rfl | rfl | rfl | rfl | rfl | rfl | rfl | rfl | rfl | rfl | rfl | rfl | rfl | rfl | rfl
  · exact sv30 G D
  · exact sv31 G D
  · exact sv32 G D
  · exact sv33 G D
  · exact sv34 G D
  · exact sv35 G D
  · exact sv36 G D
  · exact sv37 G D
  · exact sv38 G D
  · exact sv39 G D
  · exact sv40 G D
  · exact sv41 G D
  · exact sv42 G D
  · exact sv43 G D
  · exact sv44 G D
  · exact sv45 G D
  · exact sv46 G D
  · exact sv47 G D
  · exact sv48 G D
  · exact sv49 G D
  · exact sv50 G D, ⟨fun sm h => by
  simp only [List.mem_cons, List.not_mem_nil, or_false] at h
  rcases h with rfl | rfl | rfl | rfl | rfl | rfl | rfl | rfl | rfl | rfl | rfl | rfl | rfl | rfl | rfl | rfl | rfl | rfl | rfl | rfl | rfl | rfl
  · exact sv8 G D
  · exact sv9 G D
  · exact sv10 G D
  · exact sv11 G D
  · exact sv12 G D
  · exact sv13 G D
  · exact sv14 G D
  · exact sv15 G D
  · exact sv16 G D
  · exact sv17 G D
  · exact sv18 G D
  · exact sv19 G D
  · exact sv20 G D
  · exact sv21 G D
  · exact sv22 G D
  · exact sv23 G D
  · exact sv24 G D
  · exact sv25 G D
  · exact sv26 G D
  · exact sv27 G D
  · exact sv28 G D
  · exact sv29 G D, ⟨fun sm h => by
  simp only [List.mem_cons, List.not_mem_nil, or_false] at h
  rcases h with rfl | rfl | rfl | rfl | rfl | rfl | rfl | rfl
  · exact sv0 G D
  · exact sv1 G D
  · exact sv2 G D
  · exact sv3 G D
  · exact sv4 G D
  · exact sv5 G D
  · exact sv6 G D
  · exact sv7 G D, trivial⟩⟩⟩⟩⟩
noncomputable def M60 : TT (SV × SP) := evFnD (cfgT F (fun _ => none) hpE T60) 2000 88 (patAs 0 [(false, [(.lit (.int .u32 (.lit 0)))]), (false, [(.lit (.int .i64 (.lit 3)))]), (false, [(.lit (.int .u32 (.lit 16)))]), (false, [(.lit (.int .i64 (.lit 1)))]), (false, [(.lit (.int .i64 (.lit 512)))]), (false, [(.lit .nilSlice)])]) ⟨hpE, []⟩
def spc60 : PC := []
def r60_0c0 : RT := (.leaf (.agg [(.int .i64 (.lit 1)), (.int .u32 (.lit 16)), (.int .u32 (.lit 0)), (.int .u32 (.lit 0)), (.int .u32 (.lit 0))]))
theorem r60_0k0 : r60_0c0.ok 0 M60 spc60 = true := by kernel_rfl
def sm60 : Sm := ⟨[(false, [(.lit (.int .u32 (.lit 0)))]), (false, [(.lit (.int .i64 (.lit 3)))]), (false, [(.lit (.int .u32 (.lit 16)))]), (false, [(.lit (.int .i64 (.lit 1)))]), (false, [(.lit (.int .i64 (.lit 512)))]), (false, [(.lit .nilSlice)])], false, r60_0c0⟩
theorem sv60 (G : Nat → Option Nat) (D : Hp) : SmValid Tryz.prog (GofSm G sm60) (DofSm D sm60) 88 sm60 := smValid0 (T := T60) (fuel := 2000) mixed hF (VT60 _ _) rfl r60_0k0
def T61 : List (Nat × List Sm) := [(88, [sm53, sm54, sm55, sm56, sm57, sm58, sm59, sm60]), (17, [sm51, sm52]), (9, [sm30, sm31, sm32, sm33, sm34, sm35, sm36, sm37, sm38, sm39, sm40, sm41, sm42, sm43, sm44, sm45, sm46, sm47, sm48, sm49, sm50]), (57, [sm8, sm9, sm10, sm11, sm12, sm13, sm14, sm15, sm16, sm17, sm18, sm19, sm20, sm21, sm22, sm23, sm24, sm25, sm26, sm27, sm28, sm29]), (78, [sm0, sm1, sm2, sm3, sm4, sm5, sm6, sm7])]
theorem VT61 (G : Nat → Option Nat) (D : Hp) : AllV Tryz.prog G D T61 := ⟨fun sm h => by
  simp only [List.mem_cons, List.not_mem_nil, or_false] at h
  rcases h with rfl | rfl | rfl | rfl | rfl | rfl | rfl | rfl
  · exact sv53 G D
  · exact sv54 G D
  · exact sv55 G D
  · exact sv56 G D
  · exact sv57 G D
  · exact sv58 G D
  · exact sv59 G D
  · exact sv60 G D, ⟨fun sm h => by
  simp only [List.mem_cons, List.not_mem_nil, or_false] at h
  rcases h with rfl | rfl
  · exact sv51 G D
  · exact sv52 G D, ⟨fun sm h => by
  simp only [List.mem_cons, List.not_mem_nil, or_false] at h
  rcases h with rfl | rfl | rfl | rfl | rfl | rfl | rfl | rfl | rfl | rfl | rfl | rfl | rfl | rfl | rfl | rfl | rfl | rfl | rfl | rfl | rfl
  · exact sv30 G D
  · exact sv31 G D
  · exact sv32 G D
  · exact sv33 G D
  · exact sv34 G D
  · exact sv35 G D
  · exact sv36 G D
  · exact sv37 G D
  · exact sv38 G D
  · exact sv39 G D
  · exact sv40 G D
  · exact sv41 G D
  · exact sv42 G D
  · exact sv43 G D
  · exact sv44 G D
  · exact sv45 G D
  · exact sv46 G D
  · exact sv47 G D
  · exact sv48 G D
  · exact sv49 G D
  · exact sv50 G D, ⟨fun sm h => by
  simp only [List.mem_cons, List.not_mem_nil, or_false] at h
  rcases h with rfl | rfl | rfl | rfl | rfl | rfl | rfl | rfl | rfl | rfl | rfl | rfl | rfl | rfl | rfl | rfl | rfl | rfl | rfl | rfl | rfl | rfl
  · exact sv8 G D
  · exact sv9 G D
  · exact sv10 G D
  · exact sv11 G D
  · exact sv12 G D
  · exact sv13 G D
  · exact sv14 G D
  · exact sv15 G D
  · exact sv16 G D
  · exact sv17 G D
  · exact sv18 G D
  · exact sv19 G D
  · exact sv20 G D
  · exact sv21 G D
  · exact sv22 G D
  · exact sv23 G D
  · exact sv24 G D
  · exact sv25 G D
  · exact sv26 G D
  · exact sv27 G D
  · exact sv28 G D
  · exact sv29 G D, ⟨fun sm h => by
  simp only [List.mem_cons, List.not_mem_nil, or_false] at h
  rcases h with rfl | rfl | rfl | rfl | rfl | rfl | rfl | rfl
  · exact sv0 G D
  · exact sv1 G D
  · exact sv2 G D
  · exact sv3 G D
  · exact sv4 G D
  · exact sv5 G D
  · exact sv6 G D
  · exact sv7 G D, trivial⟩⟩⟩⟩⟩
noncomputable def M61 : TT (SV × SP) := evFnD (cfgT F (fun _ => none) hpE T61) 2000 88 (patAs 0 [(false, [(.lit (.int .u32 (.lit 0)))]), (false, [(.lit (.int .i64 (.lit 3)))]), (false, [(.lit (.int .u32 (.lit 20)))]), (false, [(.lit (.int .i64 (.lit 1)))]), (false, [(.lit (.int .i64 (.lit 512)))]), (false, [(.lit .nilSlice)])]) ⟨hpE, []⟩
def spc61 : PC := []
def r61_0c0 : RT := (.leaf (.agg [(.int .i64 (.lit 1)), (.int .u32 (.lit 20)), (.int .u32 (.lit 0)), (.int .u32 (.lit 0)), (.int .u32 (.lit 0))]))
theorem r61_0k0 : r61_0c0.ok 0 M61 spc61 = true := by kernel_rfl
def sm61 : Sm := ⟨[(false, [(.lit (.int .u32 (.lit 0)))]), (false, [(.lit (.int .i64 (.lit 3)))]), (false, [(.lit (.int .u32 (.lit 20)))]), (false, [(.lit (.int .i64 (.lit 1)))]), (false, [(.lit (.int .i64 (.lit 512)))]), (false, [(.lit .nilSlice)])], false, r61_0c0⟩
theorem sv61 (G : Nat → Option Nat) (D : Hp) : SmValid Tryz.prog (GofSm G sm61) (DofSm D sm61) 88 sm61 := smValid0 (T := T61) (fuel := 2000) mixed hF (VT61 _ _) rfl r61_0k0
def T62 : List (Nat × List Sm) := [(88, [sm53, sm54, sm55, sm56, sm57, sm58, sm59, sm60, sm61]), (17, [sm51, sm52]), (9, [sm30, sm31, sm32, sm33, sm34, sm35, sm36, sm37, sm38, sm39, sm40, sm41, sm42, sm43, sm44, sm45, sm46, sm47, sm48, sm49, sm50]), (57, [sm8, sm9, sm10, sm11, sm12, sm13, sm14, sm15, sm16, sm17, sm18, sm19, sm20, sm21, sm22, sm23, sm24, sm25, sm26, sm27, sm28, sm29]), (78, [sm0, sm1, sm2, sm3, sm4, sm5, sm6, sm7])]
theorem VT62 (G : Nat → Option Nat) (D : Hp) : AllV Tryz.prog G D T62 := ⟨fun sm h => by
  simp only [List.mem_cons, List.not_mem_nil, or_false] at h
  rcases h with rfl | rfl | rfl | rfl | rfl | rfl | rfl | rfl | rfl
  · exact sv53 G D
  · exact sv54 G D
  · exact sv55 G D
  · exact sv56 G D
  · exact sv57 G D
  · exact sv58 G D
  · exact sv59 G D
  · exact sv60 G D
  · exact sv61 G D, ⟨fun sm h => by
  simp only [List.mem_cons, List.not_mem_nil, or_false] at h
  rcases h with rfl | rfl
  · exact sv51 G D
  · exact sv52 G D, ⟨fun sm h => by
  simp only [List.mem_cons, List.not_mem_nil, or_false] at h
  rcases h with rfl | rfl | rfl | rfl | rfl | rfl | rfl | rfl | rfl | rfl | rfl | rfl | rfl | rfl | rfl | rfl | rfl | rfl | rfl | rfl | rfl
  · exact sv30 G D
  · exact sv31 G D
  · exact sv32 G D
  · exact sv33 G D
  · exact sv34 G D
  · exact sv35 G D
  · exact sv36 G D
  · exact sv37 G D
  · exact sv38 G D
  · exact sv39 G D
  · exact sv40 G D
  · exact sv41 G D
  · exact sv42 G D
  · exact sv43 G D
  · exact sv44 G D
  · exact sv45 G D
  · exact sv46 G D
  · exact sv47 G D
  · exact sv48 G D
  · exact sv49 G D
  · exact sv50 G D, ⟨fun sm h => by
  simp only [List.mem_cons, List.not_mem_nil, or_false] at h
  rcases h with rfl | rfl | rfl | rfl | rfl | rfl | rfl | rfl | rfl | rfl | rfl | rfl | rfl | rfl | rfl | rfl | rfl | rfl | rfl | rfl | rfl | rfl
  · exact sv8 G D
  · exact sv9 G D
  · exact sv10 G D
  · exact sv11 G D
  · exact sv12 G D
  · exact sv13 G D
  · exact sv14 G D
  · exact sv15 G D
  · exact sv16 G D
  · exact sv17 G D
  · exact sv18 G D
  · exact sv19 G D
  · exact sv20 G D
  · exact sv21 G D
  · exact sv22 G D
  · exact sv23 G D
  · exact sv24 G D
  · exact sv25 G D
  · exact sv26 G D
  · exact sv27 G D
  · exact sv28 G D
  · exact sv29 G D, ⟨fun sm h => by
  simp only [List.mem_cons, List.not_mem_nil, or_false] at h
  rcases h with rfl | rfl | rfl | rfl | rfl | rfl | rfl | rfl
  · exact sv0 G D
  · exact sv1 G D
  · exact sv2 G D
  · exact sv3 G D
  · exact sv4 G D
  · exact sv5 G D
  · exact sv6 G D
  · exact sv7 G D, trivial⟩⟩⟩⟩⟩
noncomputable def M62 : TT (SV × SP) := evFnD (cfgT F (fun _ => none) hpE T62) 2000 88 (patAs 0 [(false, [(.lit (.int .u32 (.lit 0)))]), (false, [(.lit (.int .i64 (.lit 3)))]), (false, [(.lit (.int .u32 (.lit 256)))]), (false, [(.lit (.int .i64 (.lit 2)))]), (false, [(.lit (.int .i64 (.lit 512)))]), (false, [(.lit .nilSlice)])]) ⟨hpE, []⟩
def spc62 : PC := []
def r62_0c0 : RT := (.leaf (.agg [(.int .i64 (.lit 1)), (.int .u32 (.lit 256)), (.int .u32 (.lit 0)), (.int .u32 (.lit 0)), (.int .u32 (.lit 0))]))
theorem r62_0k0 : r62_0c0.ok 0 M62 spc62 = true := by kernel_rfl
def sm62 : Sm := ⟨[(false, [(.lit (.int .u32 (.lit 0)))]), (false, [(.lit (.int .i64 (.lit 3)))]), (false, [(.lit (.int .u32 (.lit 256)))]), (false, [(.lit (.int .i64 (.lit 2)))]), (false, [(.lit (.int .i64 (.lit 512)))]), (false, [(.lit .nilSlice)])], false, r62_0c0⟩
theorem sv62 (G : Nat → Option Nat) (D : Hp) : SmValid Tryz.prog (GofSm G sm62) (DofSm D sm62) 88 sm62 := smValid0 (T := T62) (fuel := 2000) mixed hF (VT62 _ _) rfl r62_0k0
def T63 : List (Nat × List Sm) := [(88, [sm53, sm54, sm55, sm56, sm57, sm58, sm59, sm60, sm61, sm62]), (17, [sm51, sm52]), (9, [sm30, sm31, sm32, sm33, sm34, sm35, sm36, sm37, sm38, sm39, sm40, sm41, sm42, sm43, sm44, sm45, sm46, sm47, sm48, sm49, sm50]), (57, [sm8, sm9, sm10, sm11, sm12, sm13, sm14, sm15, sm16, sm17, sm18, sm19, sm20, sm21, sm22, sm23, sm24, sm25, sm26, sm27, sm28, sm29]), (78, [sm0, sm1, sm2, sm3, sm4, sm5, sm6, sm7])]
theorem VT63 (G : Nat → Option Nat) (D : Hp) : AllV Tryz.prog G D T63 := ⟨fun sm h => by
  simp only [List.mem_cons, List.not_mem_nil, or_false] at h
  rcases h with rfl | rfl | rfl | rfl | rfl | rfl | rfl | rfl | rfl | rfl
  · exact sv53 G D
  · exact sv54 G D
  · exact sv55 G D
  · exact sv56 G D
  · exact sv57 G D
  · exact sv58 G D
  · exact sv59 G D
  · exact sv60 G D
  · exact sv61 G D
  · exact sv62 G D, ⟨fun sm h => by
  simp only [List.mem_cons, List.not_mem_nil, or_false] at h
  rcases h with rfl | rfl
  · exact sv51 G D
  · exact sv52 G D, ⟨fun sm h => by
  simp only [List.mem_cons, List.not_mem_nil, or_false] at h
  rcases h with rfl | rfl | rfl | rfl | rfl | rfl | rfl | rfl | rfl | rfl | rfl | rfl | rfl | rfl | rfl | rfl | rfl | rfl | rfl | rfl | rfl
  · exact sv30 G D
  · exact sv31 G D
  · exact sv32 G D
  · exact sv33 G D
  · exact sv34 G D
  · exact sv35 G D
  · exact sv36 G D
  · exact sv37 G D
  · exact sv38 G D
  · exact sv39 G D
  · exact sv40 G D
  · exact sv41 G D
  · exact sv42 G D
  · exact sv43 G D
  · exact sv44 G D
  · exact sv45 G D
  · exact sv46 G D
  · exact sv47 G D
  · exact sv48 G D
  · exact sv49 G D
  · exact sv50 G D, ⟨fun sm h => by
  simp only [List.mem_cons, List.not_mem_nil, or_false] at h
  rcases h with rfl | rfl | rfl | rfl | rfl | rfl | rfl | rfl | rfl | rfl | rfl | rfl | rfl | rfl | rfl | rfl | rfl | rfl | rfl | rfl | rfl | rfl
  · exact sv8 G D
  · exact sv9 G D
  · exact sv10 G D
  · exact sv11 G D
  · exact sv12 G D
  · exact sv13 G D
  · exact sv14 G D
  · exact sv15 G D
  · exact sv16 G D
  · exact sv17 G D
  · exact sv18 G D
  · exact sv19 G D
  · exact sv20 G D
  · exact sv21 G D
  · exact sv22 G D
  · exact sv23 G D
  · exact sv24 G D
  · exact sv25 G D
  · exact sv26 G D
  · exact sv27 G D
  · exact sv28 G D
  · exact sv29 G D, ⟨fun sm h => by
  simp only [List.mem_cons, List.not_mem_nil, or_false] at h
  rcases h with rfl | rfl | rfl | rfl | rfl | rfl | rfl | rfl
  · exact sv0 G D
  · exact sv1 G D
  · exact sv2 G D
  · exact sv3 G D
  · exact sv4 G D
  · exact sv5 G D
  · exact sv6 G D
  · exact sv7 G D, trivial⟩⟩⟩⟩⟩
noncomputable def M63 : TT (SV × SP) := evFnD (cfgT F (fun _ => none) hpE T63) 2000 88 (patAs 0 [(false, [(.lit (.int .u32 (.lit 0)))]), (false, [(.lit (.int .i64 (.lit 3)))]), (false, [(.lit (.int .u32 (.lit 24)))]), (false, [(.lit (.int .i64 (.lit 1)))]), (false, [(.lit (.int .i64 (.lit 512)))]), (false, [(.lit .nilSlice)])]) ⟨hpE, []⟩
def spc63 : PC := []
def r63_0c0 : RT := (.leaf (.agg [(.int .i64 (.lit 1)), (.int .u32 (.lit 24)), (.int .u32 (.lit 0)), (.int .u32 (.lit 0)), (.int .u32 (.lit 0))]))
theorem r63_0k0 : r63_0c0.ok 0 M63 spc63 = true := by kernel_rfl
def sm63 : Sm := ⟨[(false, [(.lit (.int .u32 (.lit 0)))]), (false, [(.lit (.int .i64 (.lit 3)))]), (false, [(.lit (.int .u32 (.lit 24)))]), (false, [(.lit (.int .i64 (.lit 1)))]), (false, [(.lit (.int .i64 (.lit 512)))]), (false, [(.lit .nilSlice)])], false, r63_0c0⟩
theorem sv63 (G : Nat → Option Nat) (D : Hp) : SmValid Tryz.prog (GofSm G sm63) (DofSm D sm63) 88 sm63 := smValid0 (T := T63) (fuel := 2000) mixed hF (VT63 _ _) rfl r63_0k0
def T64 : List (Nat × List Sm) := [(88, [sm53, sm54, sm55, sm56, sm57, sm58, sm59, sm60, sm61, sm62, sm63]), (17, [sm51, sm52]), (9, [sm30, sm31, sm32, sm33, sm34, sm35, sm36, sm37, sm38, sm39, sm40, sm41, sm42, sm43, sm44, sm45, sm46, sm47, sm48, sm49, sm50]), (57, [sm8, sm9, sm10, sm11, sm12, sm13, sm14, sm15, sm16, sm17, sm18, sm19, sm20, sm21, sm22, sm23, sm24, sm25, sm26, sm27, sm28, sm29]), (78, [sm0, sm1, sm2, sm3, sm4, sm5, sm6, sm7])]
theorem VT64 (G : Nat → Option Nat) (D : Hp) : AllV Tryz.prog G D T64 := ⟨fun sm h => by
  simp only [List.mem_cons, List.not_mem_nil, or_false] at h
  rcases h with rfl | rfl | rfl | rfl | rfl | rfl | rfl | rfl | rfl | rfl | rfl
  · exact sv53 G D
  · exact sv54 G D
  · exact sv55 G D
  · exact sv56 G D
  · exact sv57 G D
  · exact sv58 G D
  · exact sv59 G D
  · exact sv60 G D
  · exact sv61 G D
  · exact sv62 G D
  · exact sv63 G D, ⟨fun sm h => by
  simp only [List.mem_cons, List.not_mem_nil, or_false] at h
  rcases h with rfl | rfl
  · exact sv51 G D
  · exact sv52 G D, ⟨fun sm h => by
  simp only [List.mem_cons, List.not_mem_nil, or_false] at h
  rcases h with rfl | rfl | rfl | rfl | rfl | rfl | rfl | rfl | rfl | rfl | rfl | rfl | rfl | rfl | rfl | rfl | rfl | rfl | rfl | rfl | rfl
  · exact sv30 G D
  · exact sv31 G D
  · exact sv32 G D
  · exact sv33 G D
  · exact sv34 G D
  · exact sv35 G D
  · exact sv36 G D
  · exact sv37 G D
  · exact sv38 G D
  · exact sv39 G D
  · exact sv40 G D
  · exact sv41 G D
  · exact sv42 G D
  · exact sv43 G D
  · exact sv44 G D
  · exact sv45 G D
  · exact sv46 G D
  · exact sv47 G D
  · exact sv48 G D
  · exact sv49 G D
  · exact sv50 G D, ⟨fun sm h => by
  simp only [List.mem_cons, List.not_mem_nil, or_false] at h
  rcases h with rfl | rfl | rfl | rfl | rfl | rfl | rfl | rfl | rfl | rfl | rfl | rfl | rfl | rfl | rfl | rfl | rfl | rfl | rfl | rfl | rfl | rfl
  · exact sv8 G D
  · exact sv9 G D
  · exact sv10 G D
  · exact sv11 G D
  · exact sv12 G D
  · exact sv13 G D
  · exact sv14 G D
  · exact sv15 G D
  · exact sv16 G D
  · exact sv17 G D
  · exact sv18 G D
  · exact sv19 G D
  · exact sv20 G D
  · exact sv21 G D
  · exact sv22 G D
  · exact sv23 G D
  · exact sv24 G D
  · exact sv25 G D
  · exact sv26 G D
  · exact sv27 G D
  · exact sv28 G D
  · exact sv29 G D, ⟨fun sm h => by
  simp only [List.mem_cons, List.not_mem_nil, or_false] at h
  rcases h with rfl | rfl | rfl | rfl | rfl | rfl | rfl | rfl
  · exact sv0 G D
  · exact sv1 G D
  · exact sv2 G D
  · exact sv3 G D
  · exact sv4 G D
  · exact sv5 G D
  · exact sv6 G D
  · exact sv7 G D, trivial⟩⟩⟩⟩⟩
noncomputable def M64 : TT (SV × SP) := evFnD (cfgT F (fun _ => none) hpE T64) 2000 88 (patAs 0 [(false, [(.lit (.int .u32 (.lit 0)))]), (false, [(.lit (.int .i64 (.lit 3)))]), (false, [(.lit (.int .u32 (.lit 28)))]), (false, [(.lit (.int .i64 (.lit 1)))]), (false, [(.lit (.int .i64 (.lit 512)))]), (false, [(.lit .nilSlice)])]) ⟨hpE, []⟩
def spc64 : PC := []
def r64_0c0 : RT := (.leaf (.agg [(.int .i64 (.lit 1)), (.int .u32 (.lit 28)), (.int .u32 (.lit 0)), (.int .u32 (.lit 0)), (.int .u32 (.lit 0))]))
theorem r64_0k0 : r64_0c0.ok 0 M64 spc64 = true := by kernel_rfl
def sm64 : Sm := ⟨[(false, [(.lit (.int .u32 (.lit 0)))]), (false, [(.lit (.int .i64 (.lit 3)))]), (false, [(.lit (.int .u32 (.lit 28)))]), (false, [(.lit (.int .i64 (.lit 1)))]), (false, [(.lit (.int .i64 (.lit 512)))]), (false, [(.lit .nilSlice)])], false, r64_0c0⟩
theorem sv64 (G : Nat → Option Nat) (D : Hp) : SmValid Tryz.prog (GofSm G sm64) (DofSm D sm64) 88 sm64 := smValid0 (T := T64) (fuel := 2000) mixed hF (VT64 _ _) rfl r64_0k0
def T65 : List (Nat × List Sm) := [(88, [sm53, sm54, sm55, sm56, sm57, sm58, sm59, sm60, sm61, sm62, sm63, sm64]), (17, [sm51, sm52]), (9, [sm30, sm31, sm32, sm33, sm34, sm35, sm36, sm37, sm38, sm39, sm40, sm41, sm42, sm43, sm44, sm45, sm46, sm47, sm48, sm49, sm50]), (57, [sm8, sm9, sm10, sm11, sm12, sm13, sm14, sm15, sm16, sm17, sm18, sm19, sm20, sm21, sm22, sm23, sm24, sm25, sm26, sm27, sm28, sm29]), (78, [sm0, sm1, sm2, sm3, sm4, sm5, sm6, sm7])]
theorem VT65 (G : Nat → Option Nat) (D : Hp) : AllV Tryz.prog G D T65 := ⟨fun sm h => by
  simp only [List.mem_cons, List.not_mem_nil, or_false] at h
  rcases h with rfl | rfl | rfl | rfl | rfl | rfl | rfl | rfl | rfl | rfl | rfl | rfl
  · exact sv53 G D
  · exact sv54 G D
  · exact sv55 G D
  · exact sv56 G D
  · exact sv57 G D
  · exact sv58 G D
  · exact sv59 G D
  · exact sv60 G D
  · exact sv61 G D
  · exact sv62 G D
  · exact sv63 G D
  · exact sv64 G D, ⟨fun sm h => by
  simp only [List.mem_cons, List.not_mem_nil, or_false] at h
  rcases h with rfl | rfl
  · exact sv51 G D
  · exact sv52 G D, ⟨fun sm h => by
  simp only [List.mem_cons, List.not_mem_nil, or_false] at h
  rcases h with rfl | rfl | rfl | rfl | rfl | rfl | rfl | rfl | rfl | rfl | rfl | rfl | rfl | rfl | rfl | rfl | rfl | rfl | rfl | rfl | rfl
  · exact sv30 G D
  · exact sv31 G D
  · exact sv32 G D
  · exact sv33 G D
  · exact sv34 G D
  · exact sv35 G D
  · exact sv36 G D
  · exact sv37 G D
  · exact sv38 G D
  · exact sv39 G D
  · exact sv40 G D
  · exact sv41 G D
  · exact sv42 G D
  · exact sv43 G D
  · exact sv44 G D
  · exact sv45 G D
  · exact sv46 G D
  · exact sv47 G D
  · exact sv48 G D
  · exact sv49 G D
  · exact sv50 G D, ⟨fun sm h => by
  simp only [List.mem_cons, List.not_mem_nil, or_false] at h
  rcases h with rfl | rfl | rfl | rfl | rfl | rfl | rfl | rfl | rfl | rfl | rfl | rfl | rfl | rfl | rfl | rfl | rfl | rfl | rfl | rfl | rfl | rfl
  · exact sv8 G D
  · exact sv9 G D
  · exact sv10 G D
  · exact sv11 G D
  · exact sv12 G D
  · exact sv13 G D
  · exact sv14 G D
  · exact sv15 G D
  · exact sv16 G D
  · exact sv17 G D
  · exact sv18 G D
  · exact sv19 G D
  · exact sv20 G D
  · exact sv21 G D
  · exact sv22 G D
  · exact sv23 G D
  · exact sv24 G D
  · exact sv25 G D
  · exact sv26 G D
  · exact sv27 G D
  · exact sv28 G D
  · exact sv29 G D, ⟨fun sm h => by
  simp only [List.mem_cons, List.not_mem_nil, or_false] at h
  rcases h with rfl | rfl | rfl | rfl | rfl | rfl | rfl | rfl
  · exact sv0 G D
  · exact sv1 G D
  · exact sv2 G D
  · exact sv3 G D
  · exact sv4 G D
  · exact sv5 G D
  · exact sv6 G D
  · exact sv7 G D, trivial⟩⟩⟩⟩⟩
noncomputable def M65 : TT (SV × SP) := evFnD (cfgT F (fun _ => none) hpE T65) 2000 88 (patAs 0 [(false, [(.lit (.int .u32 (.lit 0)))]), (false, [(.lit (.int .i64 (.lit 3)))]), (false, [(.lit (.int .u32 (.lit 256)))]), (false, [(.lit (.int .i64 (.lit 3)))]), (false, [(.lit (.int .i64 (.lit 512)))]), (false, [(.lit .nilSlice)])]) ⟨hpE, []⟩
def spc65 : PC := []
def r65_0c0 : RT := (.leaf (.agg [(.int .i64 (.lit 1)), (.int .u32 (.lit 256)), (.int .u32 (.lit 0)), (.int .u32 (.lit 0)), (.int .u32 (.lit 0))]))
theorem r65_0k0 : r65_0c0.ok 0 M65 spc65 = true := by kernel_rfl
def sm65 : Sm := ⟨[(false, [(.lit (.int .u32 (.lit 0)))]), (false, [(.lit (.int .i64 (.lit 3)))]), (false, [(.lit (.int .u32 (.lit 256)))]), (false, [(.lit (.int .i64 (.lit 3)))]), (false, [(.lit (.int .i64 (.lit 512)))]), (false, [(.lit .nilSlice)])], false, r65_0c0⟩
theorem sv65 (G : Nat → Option Nat) (D : Hp) : SmValid Tryz.prog (GofSm G sm65) (DofSm D sm65) 88 sm65 := smValid0 (T := T65) (fuel := 2000) mixed hF (VT65 _ _) rfl r65_0k0
def T66 : List (Nat × List Sm) := [(88, [sm53, sm54, sm55, sm56, sm57, sm58, sm59, sm60, sm61, sm62, sm63, sm64, sm65]), (17, [sm51, sm52]), (9, [sm30, sm31, sm32, sm33, sm34, sm35, sm36, sm37, sm38, sm39, sm40, sm41, sm42, sm43, sm44, sm45, sm46, sm47, sm48, sm49, sm50]), (57, [sm8, sm9, sm10, sm11, sm12, sm13, sm14, sm15, sm16, sm17, sm18, sm19, sm20, sm21, sm22, sm23, sm24, sm25, sm26, sm27, sm28, sm29]), (78, [sm0, sm1, sm2, sm3, sm4, sm5, sm6, sm7])]
theorem VT66 (G : Nat → Option Nat) (D : Hp) : AllV Tryz.prog G D T66 := ⟨fun sm h => by
  simp only [List.mem_cons, List.not_mem_nil, or_false] at h
  rcases h with rfl | rfl | rfl | rfl | rfl | rfl | rfl | rfl | rfl | rfl | rfl | rfl | rfl
  · exact sv53 G D
  · exact sv54 G D
  · exact sv55 G D
  · exact sv56 G D
  · exact sv57 G D
  · exact sv58 G D
  · exact sv59 G D
  · exact sv60 G D
  · exact sv61 G D
  · exact sv62 G D
  · exact sv63 G D
  · exact sv64 G D
  · exact sv65 G D, ⟨fun sm h => by
  simp only [List.mem_cons, List.not_mem_nil, or_false] at h
  rcases h with rfl | rfl
  · exact sv51 G D
  · exact sv52 G D, ⟨fun sm h => by
  simp only [List.mem_cons, List.not_mem_nil, or_false] at h
  rcases h with rfl | rfl | rfl | rfl | rfl | rfl | rfl | rfl | rfl | rfl | rfl | rfl | rfl | rfl | rfl | rfl | rfl | rfl | rfl | rfl | rfl
  · exact sv30 G D
  · exact sv31 G D
  · exact sv32 G D
  · exact sv33 G D
  · exact sv34 G D
  · exact sv35 G D
  · exact sv36 G D
  · exact sv37 G D
  · exact sv38 G D
  · exact sv39 G D
  · exact sv40 G D
  · exact sv41 G D
  · exact sv42 G D
  · exact sv43 G D
  · exact sv44 G D
  · exact sv45 G D
  · exact sv46 G D
  · exact sv47 G D
  · exact sv48 G D
  · exact sv49 G D
  · exact sv50 G D, ⟨fun sm h => by
  simp only [List.mem_cons, List.not_mem_nil, or_false] at h
  rcases h with rfl | rfl | rfl | rfl | rfl | rfl | rfl | rfl | rfl | rfl | rfl | rfl | rfl | rfl | rfl | rfl | rfl | rfl | rfl | rfl | rfl | rfl
  · exact sv8 G D
  · exact sv9 G D
  · exact sv10 G D
  · exact sv11 G D
  · exact sv12 G D
  · exact sv13 G D
  · exact sv14 G D
  · exact sv15 G D
  · exact sv16 G D
  · exact sv17 G D
  · exact sv18 G D
  · exact sv19 G D
  · exact sv20 G D
  · exact sv21 G D
  · exact sv22 G D
  · exact sv23 G D
  · exact sv24 G D
  · exact sv25 G D
  · exact sv26 G D
  · exact sv27 G D
  · exact sv28 G D
  · exact sv29 G D, ⟨fun sm h => by
  simp only [List.mem_cons, List.not_mem_nil, or_false] at h
  rcases h with rfl | rfl | rfl | rfl | rfl | rfl | rfl | rfl
  · exact sv0 G D
  · exact sv1 G D
  · exact sv2 G D
  · exact sv3 G D
  · exact sv4 G D
  · exact sv5 G D
  · exact sv6 G D
  · exact sv7 G D, trivial⟩⟩⟩⟩⟩
noncomputable def M66 : TT (SV × SP) := evFnD (cfgT F (fun _ => none) hpE T66) 2000 88 (patAs 0 [(false, [(.lit (.int .u32 (.lit 0)))]), (false, [(.lit (.int .i64 (.lit 3)))]), (false, [(.lit (.int .u32 (.lit 280)))]), (false, [(.lit (.int .i64 (.lit 3)))]), (false, [(.lit (.int .i64 (.lit 512)))]), (false, [(.lit .nilSlice)])]) ⟨hpE, []⟩
def spc66 : PC := []
def r66_0c0 : RT := (.leaf (.agg [(.int .i64 (.lit 1)), (.int .u32 (.lit 280)), (.int .u32 (.lit 0)), (.int .u32 (.lit 0)), (.int .u32 (.lit 0))]))
theorem r66_0k0 : r66_0c0.ok 0 M66 spc66 = true := by kernel_rfl
def sm66 : Sm := ⟨[(false, [(.lit (.int .u32 (.lit 0)))]), (false, [(.lit (.int .i64 (.lit 3)))]), (false, [(.lit (.int .u32 (.lit 280)))]), (false, [(.lit (.int .i64 (.lit 3)))]), (false, [(.lit (.int .i64 (.lit 512)))]), (false, [(.lit .nilSlice)])], false, r66_0c0⟩
theorem sv66 (G : Nat → Option Nat) (D : Hp) : SmValid Tryz.prog (GofSm G sm66) (DofSm D sm66) 88 sm66 := smValid0 (T := T66) (fuel := 2000) mixed hF (VT66 _ _) rfl r66_0k0
def T67 : List (Nat × List Sm) := [(88, [sm53, sm54, sm55, sm56, sm57, sm58, sm59, sm60, sm61, sm62, sm63, sm64, sm65, sm66]), (17, [sm51, sm52]), (9, [sm30, sm31, sm32, sm33, sm34, sm35, sm36, sm37, sm38, sm39, sm40, sm41, sm42, sm43, sm44, sm45, sm46, sm47, sm48, sm49, sm50]), (57, [sm8, sm9, sm10, sm11, sm12, sm13, sm14, sm15, sm16, sm17, sm18, sm19, sm20, sm21, sm22, sm23, sm24, sm25, sm26, sm27, sm28, sm29]), (78, [sm0, sm1, sm2, sm3, sm4, sm5, sm6, sm7])]
theorem VT67 (G : Nat → Option Nat) (D : Hp) : AllV Tryz.prog G D T67 := ⟨fun sm h => by
  simp only [List.mem_cons, List.not_mem_nil, or_false] at h
  rcases h with rfl | rfl | rfl | rfl | rfl | rfl | rfl | rfl | rfl | rfl | rfl | rfl | rfl | rfl
  · exact sv53 G D
  · exact sv54 G D
  · exact sv55 G D
  · exact sv56 G D
  · exact sv57 G D
  · exact sv58 G D
  · exact sv59 G D
  · exact sv60 G D
  · exact sv61 G D
  · exact sv62 G D
  · exact sv63 G D
  · exact sv64 G D
  · exact sv65 G D
  · exact sv66 G D, ⟨fun sm h => by
  simp only [List.mem_cons, List.not_mem_nil, or_false] at h
  rcases h with rfl | rfl
  · exact sv51 G D
  · exact sv52 G D, ⟨fun sm h => by
  simp only [List.mem_cons, List.not_mem_nil, or_false] at h
  rcases h with rfl | rfl | rfl | rfl | rfl | rfl | rfl | rfl | rfl | rfl | rfl | rfl | rfl | rfl | rfl | rfl | rfl | rfl | rfl | rfl | rfl
  · exact sv30 G D
  · exact sv31 G D
  · exact sv32 G D
  · exact sv33 G D
  · exact sv34 G D
  · exact sv35 G D
  · exact sv36 G D
  · exact sv37 G D
  · exact sv38 G D
  · exact sv39 G D
  · exact sv40 G D
  · exact sv41 G D
  · exact sv42 G D
  · exact sv43 G D
  · exact sv44 G D
  · exact sv45 G D
  · exact sv46 G D
  · exact sv47 G D
  · exact sv48 G D
  · exact sv49 G D
  · exact sv50 G D, ⟨fun sm h => by
  simp only [List.mem_cons, List.not_mem_nil, or_false] at h
  rcases h with rfl | rfl | rfl | rfl | rfl | rfl | rfl | rfl | rfl | rfl | rfl | rfl | rfl | rfl | rfl | rfl | rfl | rfl | rfl | rfl | rfl | rfl
  · exact sv8 G D
  · exact sv9 G D
  · exact sv10 G D
  · exact sv11 G D
  · exact sv12 G D
  · exact sv13 G D
  · exact sv14 G D
  · exact sv15 G D
  · exact sv16 G D
  · exact sv17 G D
  · exact sv18 G D
  · exact sv19 G D
  · exact sv20 G D
  · exact sv21 G D
  · exact sv22 G D
  · exact sv23 G D
  · exact sv24 G D
  · exact sv25 G D
  · exact sv26 G D
  · exact sv27 G D
  · exact sv28 G D
  · exact sv29 G D, ⟨fun sm h => by
  simp only [List.mem_cons, List.not_mem_nil, or_false] at h
  rcases h with rfl | rfl | rfl | rfl | rfl | rfl | rfl | rfl
  · exact sv0 G D
  · exact sv1 G D
  · exact sv2 G D
  · exact sv3 G D
  · exact sv4 G D
  · exact sv5 G D
  · exact sv6 G D
  · exact sv7 G D, trivial⟩⟩⟩⟩⟩
noncomputable def M67 : TT (SV × SP) := evFnD (cfgT F (fun _ => none) hpE T67) 2000 88 (patAs 0 [(false, [(.lit (.int .u32 (.lit 0)))]), (false, [(.lit (.int .i64 (.lit 3)))]), (false, [(.lit (.int .u32 (.lit 280)))]), (false, [(.lit (.int .i64 (.lit 2)))]), (false, [(.lit (.int .i64 (.lit 512)))]), (false, [(.lit .nilSlice)])]) ⟨hpE, []⟩
def spc67 : PC := []
def r67_0c0 : RT := (.leaf (.agg [(.int .i64 (.lit 1)), (.int .u32 (.lit 280)), (.int .u32 (.lit 0)), (.int .u32 (.lit 0)), (.int .u32 (.lit 0))]))
theorem r67_0k0 : r67_0c0.ok 0 M67 spc67 = true := by kernel_rfl
def sm67 : Sm := ⟨[(false, [(.lit (.int .u32 (.lit 0)))]), (false, [(.lit (.int .i64 (.lit 3)))]), (false, [(.lit (.int .u32 (.lit 280)))]), (false, [(.lit (.int .i64 (.lit 2)))]), (false, [(.lit (.int .i64 (.lit 512)))]), (false, [(.lit .nilSlice)])], false, r67_0c0⟩
theorem sv67 (G : Nat → Option Nat) (D : Hp) : SmValid Tryz.prog (GofSm G sm67) (DofSm D sm67) 88 sm67 := smValid0 (T := T67) (fuel := 2000) mixed hF (VT67 _ _) rfl r67_0k0
def T68 : List (Nat × List Sm) := [(88, [sm53, sm54, sm55, sm56, sm57, sm58, sm59, sm60, sm61, sm62, sm63, sm64, sm65, sm66, sm67]), (17, [sm51, sm52]), (9, [sm30, sm31, sm32, sm33, sm34, sm35, sm36, sm37, sm38, sm39, sm40, sm41, sm42, sm43, sm44, sm45, sm46, sm47, sm48, sm49, sm50]), (57, [sm8, sm9, sm10, sm11, sm12, sm13, sm14, sm15, sm16, sm17, sm18, sm19, sm20, sm21, sm22, sm23, sm24, sm25, sm26, sm27, sm28, sm29]), (78, [sm0, sm1, sm2, sm3, sm4, sm5, sm6, sm7])]
theorem VT68 (G : Nat → Option Nat) (D : Hp) : AllV Tryz.prog G D T68 := ⟨fun sm h => by
  simp only [List.mem_cons, List.not_mem_nil, or_false] at h
  rcases h with rfl | rfl | rfl | rfl | rfl | rfl | rfl | rfl | rfl | rfl | rfl | rfl | rfl | rfl | rfl
  · exact sv53 G D
  · exact sv54 G D
  · exact sv55 G D
  · exact sv56 G D
  · exact sv57 G D
  · exact sv58 G D
  · exact sv59 G D
  · exact sv60 G D
  · exact sv61 G D
  · exact sv62 G D
  · exact sv63 G D
  · exact sv64 G D
  · exact sv65 G D
  · exact sv66 G D
  · exact sv67 G D, ⟨fun sm h => by
  simp only [List.mem_cons, List.not_mem_nil, or_false] at h
  rcases h with rfl | rfl
  · exact sv51 G D
  · exact sv52 G D, ⟨fun sm h => by
  simp only [List.mem_cons, List.not_mem_nil, or_false] at h
  rcases h with rfl | rfl | rfl | rfl | rfl | rfl | rfl | rfl | rfl | rfl | rfl | rfl | rfl | rfl | rfl | rfl | rfl | rfl | rfl | rfl | rfl
  · exact sv30 G D
  · exact sv31 G D
  · exact sv32 G D
  · exact sv33 G D
  · exact sv34 G D
  · exact sv35 G D
  · exact sv36 G D
  · exact sv37 G D
  · exact sv38 G D
  · exact sv39 G D
  · exact sv40 G D
  · exact sv41 G D
  · exact sv42 G D
  · exact sv43 G D
  · exact sv44 G D
  · exact sv45 G D
  · exact sv46 G D
  · exact sv47 G D
  · exact sv48 G D
  · exact sv49 G D
  · exact sv50 G D, ⟨fun sm h => by
  simp only [List.mem_cons, List.not_mem_nil, or_false] at h
  rcases h with rfl | rfl | rfl | rfl | rfl | rfl | rfl | rfl | rfl | rfl | rfl | rfl | rfl | rfl | rfl | rfl | rfl | rfl | rfl | rfl | rfl | rfl
  · exact sv8 G D
  · exact sv9 G D
  · exact sv10 G D
  · exact sv11 G D
  · exact sv12 G D
  · exact sv13 G D
  · exact sv14 G D
  · exact sv15 G D
  · exact sv16 G D
  · exact sv17 G D
  · exact sv18 G D
  · exact sv19 G D
  · exact sv20 G D
  · exact sv21 G D
  · exact sv22 G D
  · exact sv23 G D
  · exact sv24 G D
  · exact sv25 G D
  · exact sv26 G D
  · exact sv27 G D
  · exact sv28 G D
  · exact sv29 G D, ⟨fun sm h => by
  simp only [List.mem_cons, List.not_mem_nil, or_false] at h
  rcases h with rfl | rfl | rfl | rfl | rfl | rfl | rfl | rfl
  · exact sv0 G D
  · exact sv1 G D
  · exact sv2 G D
  · exact sv3 G D
  · exact sv4 G D
  · exact sv5 G D
  · exact sv6 G D
  · exact sv7 G D, trivial⟩⟩⟩⟩⟩
noncomputable def M68 : TT (SV × SP) := evFnD (cfgT F (fun _ => none) hpE T68) 2000 88 (patAs 0 [(false, [(.lit (.int .u32 (.lit 0)))]), (false, [(.lit (.int .i64 (.lit 3)))]), (false, [(.lit (.int .u32 (.lit 40)))]), (false, [(.lit (.int .i64 (.lit 1)))]), (false, [(.lit (.int .i64 (.lit 512)))]), (false, [(.lit .nilSlice)])]) ⟨hpE, []⟩
def spc68 : PC := []
def r68_0c0 : RT := (.leaf (.agg [(.int .i64 (.lit 1)), (.int .u32 (.lit 40)), (.int .u32 (.lit 0)), (.int .u32 (.lit 0)), (.int .u32 (.lit 0))]))
theorem r68_0k0 : r68_0c0.ok 0 M68 spc68 = true := by kernel_rfl
def sm68 : Sm := ⟨[(false, [(.lit (.int .u32 (.lit 0)))]), (false, [(.lit (.int .i64 (.lit 3)))]), (false, [(.lit (.int .u32 (.lit 40)))]), (false, [(.lit (.int .i64 (.lit 1)))]), (false, [(.lit (.int .i64 (.lit 512)))]), (false, [(.lit .nilSlice)])], false, r68_0c0⟩
theorem sv68 (G : Nat → Option Nat) (D : Hp) : SmValid Tryz.prog (GofSm G sm68) (DofSm D sm68) 88 sm68 := smValid0 (T := T68) (fuel := 2000) mixed hF (VT68 _ _) rfl r68_0k0
def T69 : List (Nat × List Sm) := [(88, [sm53, sm54, sm55, sm56, sm57, sm58, sm59, sm60, sm61, sm62, sm63, sm64, sm65, sm66, sm67, sm68]), (17, [sm51, sm52]), (9, [sm30, sm31, sm32, sm33, sm34, sm35, sm36, sm37, sm38, sm39, sm40, sm41, sm42, sm43, sm44, sm45, sm46, sm47, sm48, sm49, sm50]), (57, [sm8, sm9, sm10, sm11, sm12, sm13, sm14, sm15, sm16, sm17, sm18, sm19, sm20, sm21, sm22, sm23, sm24, sm25, sm26, sm27, sm28, sm29]), (78, [sm0, sm1, sm2, sm3, sm4, sm5, sm6, sm7])]
theorem VT69 (G : Nat → Option Nat) (D : Hp) : AllV Tryz.prog G D T69 := ⟨fun sm h => by
  simp only [List.mem_cons, List.not_mem_nil, or_false] at h
  rcases h with rfl | rfl | rfl | rfl | rfl | rfl | rfl | rfl | rfl | rfl | rfl | rfl | rfl | rfl | rfl | rfl
  · exact sv53 G D
  · exact sv54 G D
  · exact sv55 G D
  · exact sv56 G D
  · exact sv57 G D
  · exact sv58 G D
  · exact sv59 G D
  · exact sv60 G D
  · exact sv61 G D
  · exact sv62 G D
  · exact sv63 G D
  · exact sv64 G D
  · exact sv65 G D
  · exact sv66 G D
  · exact sv67 G D
  · exact sv68 G D, ⟨fun sm h => by
  simp only [List.mem_cons, List.not_mem_nil, or_false] at h
  rcases h with rfl | rfl
  · exact sv51 G D
  · exact sv52 G D, ⟨fun sm h => by
  simp only [List.mem_cons, List.not_mem_nil, or_false] at h
  rcases h with rfl | rfl | rfl | rfl | rfl | rfl | rfl | rfl | rfl | rfl | rfl | rfl | rfl | rfl | rfl | rfl | rfl | rfl | rfl | rfl | rfl
  · exact sv30 G D
  · exact sv31 G D
  · exact sv32 G D
  · exact sv33 G D
  · exact sv34 G D
  · exact sv35 G D
  · exact sv36 G D
  · exact sv37 G D
  · exact sv38 G D
  · exact sv39 G D
  · exact sv40 G D
  · exact sv41 G D
  · exact sv42 G D
  · exact sv43 G D
  · exact sv44 G D
  · exact sv45 G D
  · exact sv46 G D
  · exact sv47 G D
  · exact sv48 G D
  · exact sv49 G D
  · exact sv50 G D, ⟨fun sm h => by
  simp only [List.mem_cons, List.not_mem_nil, or_false] at h
  rcases h with rfl | rfl | rfl | rfl | rfl | rfl | rfl | rfl | rfl | rfl | rfl | rfl | rfl | rfl | rfl | rfl | rfl | rfl | rfl | rfl | rfl | rfl
  · exact sv8 G D
  · exact sv9 G D
  · exact sv10 G D
  · exact sv11 G D
  · exact sv12 G D
  · exact sv13 G D
  · exact sv14 G D
  · exact sv15 G D
  · exact sv16 G D
  · exact sv17 G D
  · exact sv18 G D
  · exact sv19 G D
  · exact sv20 G D
  · exact sv21 G D
  · exact sv22 G D
  · exact sv23 G D
  · exact sv24 G D
  · exact sv25 G D
  · exact sv26 G D
  · exact sv27 G D
  · exact sv28 G D
  · exact sv29 G D, ⟨fun sm h => by
  simp only [List.mem_cons, List.not_mem_nil, or_false] at h
  rcases h with rfl | rfl | rfl | rfl | rfl | rfl | rfl | rfl
  · exact sv0 G D
  · exact sv1 G D
  · exact sv2 G D
  · exact sv3 G D
  · exact sv4 G D
  · exact sv5 G D
  · exact sv6 G D
  · exact sv7 G D, trivial⟩⟩⟩⟩⟩
noncomputable def M69 : TT (SV × SP) := evFnD (cfgT F (fun _ => none) hpE T69) 2000 88 (patAs 0 [(false, [(.lit (.int .u32 (.lit 0)))]), (false, [(.lit (.int .i64 (.lit 3)))]), (false, [(.lit (.int .u32 (.lit 276)))]), (false, [(.lit (.int .i64 (.lit 3)))]), (false, [(.lit (.int .i64 (.lit 512)))]), (false, [(.lit .nilSlice)])]) ⟨hpE, []⟩
def spc69 : PC := []
def r69_0c0 : RT := (.leaf (.agg [(.int .i64 (.lit 1)), (.int .u32 (.lit 276)), (.int .u32 (.lit 0)), (.int .u32 (.lit 0)), (.int .u32 (.lit 0))]))
theorem r69_0k0 : r69_0c0.ok 0 M69 spc69 = true := by kernel_rfl
def sm69 : Sm := ⟨[(false, [(.lit (.int .u32 (.lit 0)))]), (false, [(.lit (.int .i64 (.lit 3)))]), (false, [(.lit (.int .u32 (.lit 276)))]), (false, [(.lit (.int .i64 (.lit 3)))]), (false, [(.lit (.int .i64 (.lit 512)))]), (false, [(.lit .nilSlice)])], false, r69_0c0⟩
theorem sv69 (G : Nat → Option Nat) (D : Hp) : SmValid Tryz.prog (GofSm G sm69) (DofSm D sm69) 88 sm69 := smValid0 (T := T69) (fuel := 2000) mixed hF (VT69 _ _) rfl r69_0k0
def T70 : List (Nat × List Sm) := [(88, [sm53, sm54, sm55, sm56, sm57, sm58, sm59, sm60, sm61, sm62, sm63, sm64, sm65, sm66, sm67, sm68, sm69]), (17, [sm51, sm52]), (9, [sm30, sm31, sm32, sm33, sm34, sm35, sm36, sm37, sm38, sm39, sm40, sm41, sm42, sm43, sm44, sm45, sm46, sm47, sm48, sm49, sm50]), (57, [sm8, sm9, sm10, sm11, sm12, sm13, sm14, sm15, sm16, sm17, sm18, sm19, sm20, sm21, sm22, sm23, sm24, sm25, sm26, sm27, sm28, sm29]), (78, [sm0, sm1, sm2, sm3, sm4, sm5, sm6, sm7])]
theorem VT70 (G : Nat → Option Nat) (D : Hp) : AllV Tryz.prog G D T70 := ⟨fun sm h => by
  simp only [List.mem_cons, List.not_mem_nil, or_false] at h
  rcases h with rfl | rfl | rfl | rfl | rfl | rfl | rfl | rfl | rfl | rfl | rfl | rfl | rfl | rfl | rfl | rfl | rfl
  · exact sv53 G D
  · exact sv54 G D
  · exact sv55 G D
  · exact sv56 G D
  · exact sv57 G D
  · exact sv58 G D
  · exact sv59 G D
  · exact sv60 G D
  · exact sv61 G D
  · exact sv62 G D
  · exact sv63 G D
  · exact sv64 G D
  · exact sv65 G D
  · exact sv66 G D
  · exact sv67 G D
  · exact sv68 G D
  · exact sv69 G D, ⟨fun sm h => by
  simp only [List.mem_cons, List.not_mem_nil, or_false] at h
  rcases h with rfl | rfl
  · exact sv51 G D
  · exact sv52 G D, ⟨fun sm h => by
  simp only [List.mem_cons, List.not_mem_nil, or_false] at h
  rcases h with rfl | rfl | rfl | rfl | rfl | rfl | rfl | rfl | rfl | rfl | rfl | rfl | rfl | rfl | rfl | rfl | rfl | rfl | rfl | rfl | rfl
  · exact sv30 G D
  · exact sv31 G D
  · exact sv32 G D
  · exact sv33 G D
  · exact sv34 G D
  · exact sv35 G D
  · exact sv36 G D
  · exact sv37 G D
  · exact sv38 G D
  · exact sv39 G D
  · exact sv40 G D
  · exact sv41 G D
  · exact sv42 G D
  · exact sv43 G D
  · exact sv44 G D
  · exact sv45 G D
  · exact sv46 G D
  · exact sv47 G D
  · exact sv48 G D
  · exact sv49 G D
  · exact sv50 G D, ⟨fun sm h => by
  simp only [List.mem_cons, List.not_mem_nil, or_false] at h
  rcases h with rfl | rfl | rfl | rfl | rfl | rfl | rfl | rfl | rfl | rfl | rfl | rfl | rfl | rfl | rfl | rfl | rfl | rfl | rfl | rfl | rfl | rfl
  · exact sv8 G D
  · exact sv9 G D
  · exact sv10 G D
  · exact sv11 G D
  · exact sv12 G D
  · exact sv13 G D
  · exact sv14 G D
  · exact sv15 G D
  · exact sv16 G D
  · exact sv17 G D
  · exact sv18 G D
  · exact sv19 G D
  · exact sv20 G D
  · exact sv21 G D
  · exact sv22 G D
  · exact sv23 G D
  · exact sv24 G D
  · exact sv25 G D
  · exact sv26 G D
  · exact sv27 G D
  · exact sv28 G D
  · exact sv29 G D, ⟨fun sm h => by
  simp only [List.mem_cons, List.not_mem_nil, or_false] at h
  rcases h with rfl | rfl | rfl | rfl | rfl | rfl | rfl | rfl
  · exact sv0 G D
  · exact sv1 G D
  · exact sv2 G D
  · exact sv3 G D
  · exact sv4 G D
  · exact sv5 G D
  · exact sv6 G D
  · exact sv7 G D, trivial⟩⟩⟩⟩⟩
noncomputable def M70 : TT (SV × SP) := evFnD (cfgT F (fun _ => none) hpE T70) 2000 88 (patAs 0 [(false, [(.lit (.int .u32 (.lit 0)))]), (false, [(.lit (.int .i64 (.lit 3)))]), (false, [(.lit (.int .u32 (.lit 260)))]), (false, [(.lit (.int .i64 (.lit 3)))]), (false, [(.lit (.int .i64 (.lit 512)))]), (false, [(.lit .nilSlice)])]) ⟨hpE, []⟩
def spc70 : PC := []
def r70_0c0 : RT := (.leaf (.agg [(.int .i64 (.lit 1)), (.int .u32 (.lit 260)), (.int .u32 (.lit 0)), (.int .u32 (.lit 0)), (.int .u32 (.lit 0))]))
theorem r70_0k0 : r70_0c0.ok 0 M70 spc70 = true := by kernel_rfl
def sm70 : Sm := ⟨[(false, [(.lit (.int .u32 (.lit 0)))]), (false, [(.lit (.int .i64 (.lit 3)))]), (false, [(.lit (.int .u32 (.lit 260)))]), (false, [(.lit (.int .i64 (.lit 3)))]), (false, [(.lit (.int .i64 (.lit 512)))]), (false, [(.lit .nilSlice)])], false, r70_0c0⟩
theorem sv70 (G : Nat → Option Nat) (D : Hp) : SmValid Tryz.prog (GofSm G sm70) (DofSm D sm70) 88 sm70 := smValid0 (T := T70) (fuel := 2000) mixed hF (VT70 _ _) rfl r70_0k0
def T71 : List (Nat × List Sm) := [(88, [sm53, sm54, sm55, sm56, sm57, sm58, sm59, sm60, sm61, sm62, sm63, sm64, sm65, sm66, sm67, sm68, sm69, sm70]), (17, [sm51, sm52]), (9, [sm30, sm31, sm32, sm33, sm34, sm35, sm36, sm37, sm38, sm39, sm40, sm41, sm42, sm43, sm44, sm45, sm46, sm47, sm48, sm49, sm50]), (57, [sm8, sm9, sm10, sm11, sm12, sm13, sm14, sm15, sm16, sm17, sm18, sm19, sm20, sm21, sm22, sm23, sm24, sm25, sm26, sm27, sm28, sm29]), (78, [sm0, sm1, sm2, sm3, sm4, sm5, sm6, sm7])]
theorem VT71 (G : Nat → Option Nat) (D : Hp) : AllV Tryz.prog G D T71 := ⟨fun sm h => by
  simp only [List.mem_cons, List.not_mem_nil, or_false] at h
  rcases h with rfl | rfl | rfl | rfl | rfl | rfl | rfl | rfl | rfl | rfl | rfl | rfl | rfl | rfl | rfl | rfl | rfl | rfl
  · exact sv53 G D
  · exact sv54 G D
  · exact sv55 G D
  · exact sv56 G D
  · exact sv57 G D
  · exact sv58 G D
  · exact sv59 G D
  · exact sv60 G D
  · exact sv61 G D
  · exact sv62 G D
  · exact sv63 G D
  · exact sv64 G D
  · exact sv65 G D
  · exact sv66 G D
  · exact sv67 G D
  · exact sv68 G D
  · exact sv69 G D
  · exact sv70 G D, ⟨fun sm h => by
  simp only [List.mem_cons, List.not_mem_nil, or_false] at h
  rcases h with rfl | rfl
  · exact sv51 G D
  · exact sv52 G D, ⟨fun sm h => by
  simp only [List.mem_cons, List.not_mem_nil, or_false] at h
  rcases h with rfl | rfl | rfl | rfl | rfl | rfl | rfl | rfl | rfl | rfl | rfl | rfl | rfl | rfl | rfl | rfl | rfl | rfl | rfl | rfl | rfl
  · exact sv30 G D
  · exact sv31 G D
  · exact sv32 G D
  · exact sv33 G D
  · exact sv34 G D
  · exact sv35 G D
  · exact sv36 G D
  · exact sv37 G D
  · exact sv38 G D
  · exact sv39 G D
  · exact sv40 G D
  · exact sv41 G D
  · exact sv42 G D
  · exact sv43 G D
  · exact sv44 G D
  · exact sv45 G D
  · exact sv46 G D
  · exact sv47 G D
  · exact sv48 G D
  · exact sv49 G D
  · exact sv50 G D, ⟨fun sm h => by
  simp only [List.mem_cons, List.not_mem_nil, or_false] at h
  rcases h with rfl | rfl | rfl | rfl | rfl | rfl | rfl | rfl | rfl | rfl | rfl | rfl | rfl | rfl | rfl | rfl | rfl | rfl | rfl | rfl | rfl | rfl
  · exact sv8 G D
  · exact sv9 G D
  · exact sv10 G D
  · exact sv11 G D
  · exact sv12 G D
  · exact sv13 G D
  · exact sv14 G D
  · exact sv15 G D
  · exact sv16 G D
  · exact sv17 G D
  · exact sv18 G D
  · exact sv19 G D
  · exact sv20 G D
  · exact sv21 G D
  · exact sv22 G D
  · exact sv23 G D
  · exact sv24 G D
  · exact sv25 G D
  · exact sv26 G D
  · exact sv27 G D
  · exact sv28 G D
  · exact sv29 G D, ⟨fun sm h => by
  simp only [List.mem_cons, List.not_mem_nil, or_false] at h
  rcases h with rfl | rfl | rfl | rfl | rfl | rfl | rfl | rfl
  · exact sv0 G D
  · exact sv1 G D
  · exact sv2 G D
  · exact sv3 G D
  · exact sv4 G D
  · exact sv5 G D
  · exact sv6 G D
  · exact sv7 G D, trivial⟩⟩⟩⟩⟩
noncomputable def M71 : TT (SV × SP) := evFnD (cfgT F (fun _ => none) hpE T71) 2000 88 (patAs 0 [(false, [(.lit (.int .u32 (.lit 0)))]), (false, [(.lit (.int .i64 (.lit 3)))]), (false, [(.lit (.int .u32 (.lit 264)))]), (false, [(.lit (.int .i64 (.lit 3)))]), (false, [(.lit (.int .i64 (.lit 512)))]), (false, [(.lit .nilSlice)])]) ⟨hpE, []⟩
def spc71 : PC := []
def r71_0c0 : RT := (.leaf (.agg [(.int .i64 (.lit 1)), (.int .u32 (.lit 264)), (.int .u32 (.lit 0)), (.int .u32 (.lit 0)), (.int .u32 (.lit 0))]))
theorem r71_0k0 : r71_0c0.ok 0 M71 spc71 = true := by kernel_rfl
def sm71 : Sm := ⟨[(false, [(.lit (.int .u32 (.lit 0)))]), (false, [(.lit (.int .i64 (.lit 3)))]), (false, [(.lit (.int .u32 (.lit 264)))]), (false, [(.lit (.int .i64 (.lit 3)))]), (false, [(.lit (.int .i64 (.lit 512)))]), (false, [(.lit .nilSlice)])], false, r71_0c0⟩
theorem sv71 (G : Nat → Option Nat) (D : Hp) : SmValid Tryz.prog (GofSm G sm71) (DofSm D sm71) 88 sm71 := smValid0 (T := T71) (fuel := 2000) mixed hF (VT71 _ _) rfl r71_0k0
def T72 : List (Nat × List Sm) := [(88, [sm53, sm54, sm55, sm56, sm57, sm58, sm59, sm60, sm61, sm62, sm63, sm64, sm65, sm66, sm67, sm68, sm69, sm70, sm71]), (17, [sm51, sm52]), (9, [sm30, sm31, sm32, sm33, sm34, sm35, sm36, sm37, sm38, sm39, sm40, sm41, sm42, sm43, sm44, sm45, sm46, sm47, sm48, sm49, sm50]), (57, [sm8, sm9, sm10, sm11, sm12, sm13, sm14, sm15, sm16, sm17, sm18, sm19, sm20, sm21, sm22, sm23, sm24, sm25, sm26, sm27, sm28, sm29]), (78, [sm0, sm1, sm2, sm3, sm4, sm5, sm6, sm7])]
theorem VT72 (G : Nat → Option Nat) (D : Hp) : AllV Tryz.prog G D T72 := ⟨fun sm h => by
  simp only [List.mem_cons, List.not_mem_nil, or_false] at h
  rcases h with rfl | rfl | rfl | rfl | rfl | rfl | rfl | rfl | rfl | rfl | rfl | rfl | rfl | rfl | rfl | rfl | rfl | rfl | rfl
  · exact sv53 G D
  · exact sv54 G D
  · exact sv55 G D
  · exact sv56 G D
  · exact sv57 G D
  · exact sv58 G D
  · exact sv59 G D
  · exact sv60 G D
  · exact sv61 G D
  · exact sv62 G D
  · exact sv63 G D
  · exact sv64 G D
  · exact sv65 G D
  · exact sv66 G D
  · exact sv67 G D
  · exact sv68 G D
  · exact sv69 G D
  · exact sv70 G D
  · exact sv71 G D, ⟨fun sm h => by
  simp only [List.mem_cons, List.not_mem_nil, or_false] at h
  rcases h with rfl | rfl
  · exact sv51 G D
  · exact sv52 G D, ⟨fun sm h => by
  simp only [List.mem_cons, List.not_mem_nil, or_false] at h
  rcases h with rfl | rfl | rfl | rfl | rfl | rfl | rfl | rfl | rfl | rfl | rfl | rfl | rfl | rfl | rfl | rfl | rfl | rfl | rfl | rfl | rfl
  · exact sv30 G D
  · exact sv31 G D
  · exact sv32 G D
  · exact sv33 G D
  · exact sv34 G D
  · exact sv35 G D
  · exact sv36 G D
  · exact sv37 G D
  · exact sv38 G D
  · exact sv39 G D
  · exact sv40 G D
  · exact sv41 G D
  · exact sv42 G D
  · exact sv43 G D
  · exact sv44 G D
  · exact sv45 G D
  · exact sv46 G D
  · exact sv47 G D
  · exact sv48 G D
  · exact sv49 G D
  · exact sv50 G D, ⟨fun sm h => by
  simp only [List.mem_cons, List.not_mem_nil, or_false] at h
  rcases h with rfl | rfl | rfl | rfl | rfl | rfl | rfl | rfl | rfl | rfl | rfl | rfl | rfl | rfl | rfl | rfl | rfl | rfl | rfl | rfl | rfl | rfl
  · exact sv8 G D
  · exact sv9 G D
  · exact sv10 G D
  · exact sv11 G D
  · exact sv12 G D
  · exact sv13 G D
  · exact sv14 G D
  · exact sv15 G D
  · exact sv16 G D
  · exact sv17 G D
  · exact sv18 G D
  · exact sv19 G D
  · exact sv20 G D
  · exact sv21 G D
  · exact sv22 G D
  · exact sv23 G D
  · exact sv24 G D
  · exact sv25 G D
  · exact sv26 G D
  · exact sv27 G D
  · exact sv28 G D
  · exact sv29 G D, ⟨fun sm h => by
  simp only [List.mem_cons, List.not_mem_nil, or_false] at h
  rcases h with rfl | rfl | rfl | rfl | rfl | rfl | rfl | rfl
  · exact sv0 G D
  · exact sv1 G D
  · exact sv2 G D
  · exact sv3 G D
  · exact sv4 G D
  · exact sv5 G D
  · exact sv6 G D
  · exact sv7 G D, trivial⟩⟩⟩⟩⟩
noncomputable def M72 : TT (SV × SP) := evFnD (cfgT F (fun _ => none) hpE T72) 2000 88 (patAs 0 [(false, [(.lit (.int .u32 (.lit 0)))]), (false, [(.lit (.int .i64 (.lit 3)))]), (false, [(.lit (.int .u32 (.lit 268)))]), (false, [(.lit (.int .i64 (.lit 3)))]), (false, [(.lit (.int .i64 (.lit 512)))]), (false, [(.lit .nilSlice)])]) ⟨hpE, []⟩
def spc72 : PC := []
def r72_0c0 : RT := (.leaf (.agg [(.int .i64 (.lit 1)), (.int .u32 (.lit 268)), (.int .u32 (.lit 0)), (.int .u32 (.lit 0)), (.int .u32 (.lit 0))]))
theorem r72_0k0 : r72_0c0.ok 0 M72 spc72 = true := by kernel_rfl
def sm72 : Sm := ⟨[(false, [(.lit (.int .u32 (.lit 0)))]), (false, [(.lit (.int .i64 (.lit 3)))]), (false, [(.lit (.int .u32 (.lit 268)))]), (false, [(.lit (.int .i64 (.lit 3)))]), (false, [(.lit (.int .i64 (.lit 512)))]), (false, [(.lit .nilSlice)])], false, r72_0c0⟩
theorem sv72 (G : Nat → Option Nat) (D : Hp) : SmValid Tryz.prog (GofSm G sm72) (DofSm D sm72) 88 sm72 := smValid0 (T := T72) (fuel := 2000) mixed hF (VT72 _ _) rfl r72_0k0
def T73 : List (Nat × List Sm) := [(88, [sm53, sm54, sm55, sm56, sm57, sm58, sm59, sm60, sm61, sm62, sm63, sm64, sm65, sm66, sm67, sm68, sm69, sm70, sm71, sm72]), (17, [sm51, sm52]), (9, [sm30, sm31, sm32, sm33, sm34, sm35, sm36, sm37, sm38, sm39, sm40, sm41, sm42, sm43, sm44, sm45, sm46, sm47, sm48, sm49, sm50]), (57, [sm8, sm9, sm10, sm11, sm12, sm13, sm14, sm15, sm16, sm17, sm18, sm19, sm20, sm21, sm22, sm23, sm24, sm25, sm26, sm27, sm28, sm29]), (78, [sm0, sm1, sm2, sm3, sm4, sm5, sm6, sm7])]
theorem VT73 (G : Nat → Option Nat) (D : Hp) : AllV Tryz.prog G D T73 := ⟨fun sm h => by
  simp only [List.mem_cons, List.not_mem_nil, or_false] at h
  rcases h with rfl | rfl | rfl | rfl | rfl | rfl | rfl | rfl | rfl | rfl | rfl | rfl | rfl | rfl | rfl | rfl | rfl | rfl | rfl | rfl
  · exact sv53 G D
  · exact sv54 G D
  · exact sv55 G D
  · exact sv56 G D
  · exact sv57 G D
  · exact sv58 G D
  · exact sv59 G D
  · exact sv60 G D
  · exact sv61 G D
  · exact sv62 G D
  · exact sv63 G D
  · exact sv64 G D
  · exact sv65 G D
  · exact sv66 G D
  · exact sv67 G D
  · exact sv68 G D
  · exact sv69 G D
  · exact sv70 G D
  · exact sv71 G D
  · exact sv72 G D, ⟨fun sm h => by
  simp only [List.mem_cons, List.not_mem_nil, or_false] at h
  rcases h with rfl | rfl
  · exact sv51 G D
  · exact sv52 G D, ⟨fun sm h => by
  simp only [List.mem_cons, List.not_mem_nil, or_false] at h
  rcases h with rfl | rfl | rfl | rfl | rfl | rfl | rfl | rfl | rfl | rfl | rfl | rfl | rfl | rfl | rfl | rfl | rfl | rfl | rfl | rfl | rfl
  · exact sv30 G D
  · exact sv31 G D
  · exact sv32 G D
  · exact sv33 G D
  · exact sv34 G D
  · exact sv35 G D
  · exact sv36 G D
  · exact sv37 G D
  · exact sv38 G D
  · exact sv39 G D
  · exact sv40 G D
  · exact sv41 G D
  · exact sv42 G D
  · exact sv43 G D
  · exact sv44 G D
  · exact sv45 G D
  · exact sv46 G D
  · exact sv47 G D
  · exact sv48 G D
  · exact sv49 G D
  · exact sv50 G D, ⟨fun sm h => by
  simp only [List.mem_cons, List.not_mem_nil, or_false] at h
  rcases h with rfl | rfl | rfl | rfl | rfl | rfl | rfl | rfl | rfl | rfl | rfl | rfl | rfl | rfl | rfl | rfl | rfl | rfl | rfl | rfl | rfl | rfl
  · exact sv8 G D
  · exact sv9 G D
  · exact sv10 G D
  · exact sv11 G D
  · exact sv12 G D
  · exact sv13 G D
  · exact sv14 G D
  · exact sv15 G D
  · exact sv16 G D
  · exact sv17 G D
  · exact sv18 G D
  · exact sv19 G D
  · exact sv20 G D
  · exact sv21 G D
  · exact sv22 G D
  · exact sv23 G D
  · exact sv24 G D
  · exact sv25 G D
  · exact sv26 G D
  · exact sv27 G D
  · exact sv28 G D
  · exact sv29 G D, ⟨fun sm h => by
  simp only [List.mem_cons, List.not_mem_nil, or_false] at h
  rcases h with rfl | rfl | rfl | rfl | rfl | rfl | rfl | rfl
  · exact sv0 G D
  · exact sv1 G D
  · exact sv2 G D
  · exact sv3 G D
  · exact sv4 G D
  · exact sv5 G D
  · exact sv6 G D
  · exact sv7 G D, trivial⟩⟩⟩⟩⟩
noncomputable def M73 : TT (SV × SP) := evFnD (cfgT F (fun _ => none) hpE T73) 2000 88 (patAs 0 [(false, [(.lit (.int .u32 (.lit 0)))]), (false, [(.lit (.int .i64 (.lit 3)))]), (false, [(.lit (.int .u32 (.lit 272)))]), (false, [(.lit (.int .i64 (.lit 3)))]), (false, [(.lit (.int .i64 (.lit 512)))]), (false, [(.lit .nilSlice)])]) ⟨hpE, []⟩
def spc73 : PC := []
def r73_0c0 : RT := (.leaf (.agg [(.int .i64 (.lit 1)), (.int .u32 (.lit 272)), (.int .u32 (.lit 0)), (.int .u32 (.lit 0)), (.int .u32 (.lit 0))]))
theorem r73_0k0 : r73_0c0.ok 0 M73 spc73 = true := by kernel_rfl
def sm73 : Sm := ⟨[(false, [(.lit (.int .u32 (.lit 0)))]), (false, [(.lit (.int .i64 (.lit 3)))]), (false, [(.lit (.int .u32 (.lit 272)))]), (false, [(.lit (.int .i64 (.lit 3)))]), (false, [(.lit (.int .i64 (.lit 512)))]), (false, [(.lit .nilSlice)])], false, r73_0c0⟩
theorem sv73 (G : Nat → Option Nat) (D : Hp) : SmValid Tryz.prog (GofSm G sm73) (DofSm D sm73) 88 sm73 := smValid0 (T := T73) (fuel := 2000) mixed hF (VT73 _ _) rfl r73_0k0
def T74 : List (Nat × List Sm) := [(88, [sm53, sm54, sm55, sm56, sm57, sm58, sm59, sm60, sm61, sm62, sm63, sm64, sm65, sm66, sm67, sm68, sm69, sm70, sm71, sm72, sm73]), (17, [sm51, sm52]), (9, [sm30, sm31, sm32, sm33, sm34, sm35, sm36, sm37, sm38, sm39, sm40, sm41, sm42, sm43, sm44, sm45, sm46, sm47, sm48, sm49, sm50]), (57, [sm8, sm9, sm10, sm11, sm12, sm13, sm14, sm15, sm16, sm17, sm18, sm19, sm20, sm21, sm22, sm23, sm24, sm25, sm26, sm27, sm28, sm29]), (78, [sm0, sm1, sm2, sm3, sm4, sm5, sm6, sm7])]
theorem VT74 (G : Nat → Option Nat) (D : Hp) : AllV Tryz.prog G D T74 := ⟨fun sm h => by
  simp only [List.mem_cons, List.not_mem_nil, or_false] at h
  rcases h with rfl | rfl | rfl | rfl | rfl | rfl | rfl | rfl | rfl | rfl | rfl | rfl | rfl | rfl | rfl | rfl | rfl | rfl | rfl | rfl | rfl
  · exact sv53 G D
  · exact sv54 G D
  · exact sv55 G D
  · exact sv56 G D
  · exact sv57 G D
  · exact sv58 G D
  · exact sv59 G D
  · exact sv60 G D
  · exact sv61 G D
  · exact sv62 G D
  · exact sv63 G D
  · exact sv64 G D
  · exact sv65 G D
  · exact sv66 G D
  · exact sv67 G D
  · exact sv68 G D
  · exact sv69 G D
  · exact sv70 G D
  · exact sv71 G D
  · exact sv72 G D
  · exact sv73 G D, ⟨fun sm h => by
  simp only [List.mem_cons, List.not_mem_nil, or_false] at h
  rcases h with rfl | rfl
  · exact sv51 G D
  · exact sv52 G D, ⟨fun sm h => by
  simp only [List.mem_cons, List.not_mem_nil, or_false] at h
  rcases h with rfl | rfl | rfl | rfl | rfl | rfl | rfl | rfl | rfl | rfl | rfl | rfl | rfl | rfl | rfl | rfl | rfl | rfl | rfl | rfl | rfl
  · exact sv30 G D
  · exact sv31 G D
  · exact sv32 G D
  · exact sv33 G D
  · exact sv34 G D
  · exact sv35 G D
  · exact sv36 G D
  · exact sv37 G D
  · exact sv38 G D
  · exact sv39 G D
  · exact sv40 G D
  · exact sv41 G D
  · exact sv42 G D
  · exact sv43 G D
  · exact sv44 G D
  · exact sv45 G D
  · exact sv46 G D
  · exact sv47 G D
  · exact sv48 G D
  · exact sv49 G D
  · exact sv50 G D, ⟨fun sm h => by
  simp only [List.mem_cons, List.not_mem_nil, or_false] at h
  rcases h with rfl | rfl | rfl | rfl | rfl | rfl | rfl | rfl | rfl | rfl | rfl | rfl | rfl | rfl | rfl | rfl | rfl | rfl | rfl | rfl | rfl | rfl
  · exact sv8 G D
  · exact sv9 G D
  · exact sv10 G D
  · exact sv11 G D
  · exact sv12 G D
  · exact sv13 G D
  · exact sv14 G D
  · exact sv15 G D
  · exact sv16 G D
  · exact sv17 G D
  · exact sv18 G D
  · exact sv19 G D
  · exact sv20 G D
  · exact sv21 G D
  · exact sv22 G D
  · exact sv23 G D
  · exact sv24 G D
  · exact sv25 G D
  · exact sv26 G D
  · exact sv27 G D
  · exact sv28 G D
  · exact sv29 G D, ⟨fun sm h => by
  simp only [List.mem_cons, List.not_mem_nil, or_false] at h
  rcases h with rfl | rfl | rfl | rfl | rfl | rfl | rfl | rfl
  · exact sv0 G D
  · exact sv1 G D
  · exact sv2 G D
  · exact sv3 G D
  · exact sv4 G D
  · exact sv5 G D
  · exact sv6 G D
  · exact sv7 G D, trivial⟩⟩⟩⟩⟩
noncomputable def M74 : TT (SV × SP) := evFnD (cfgT F (fun _ => none) hpE T74) 2000 88 (patAs 0 [(false, [(.lit (.int .u32 (.lit 0)))]), (false, [(.lit (.int .i64 (.lit 3)))]), (false, [(.lit (.int .u32 (.lit 284)))]), (false, [(.lit (.int .i64 (.lit 3)))]), (false, [(.lit (.int .i64 (.lit 512)))]), (false, [(.lit .nilSlice)])]) ⟨hpE, []⟩
def spc74 : PC := []
def r74_0c0 : RT := (.leaf (.agg [(.int .i64 (.lit 1)), (.int .u32 (.lit 284)), (.int .u32 (.lit 0)), (.int .u32 (.lit 0)), (.int .u32 (.lit 0))]))
theorem r74_0k0 : r74_0c0.ok 0 M74 spc74 = true := by kernel_rfl
def sm74 : Sm := ⟨[(false, [(.lit (.int .u32 (.lit 0)))]), (false, [(.lit (.int .i64 (.lit 3)))]), (false, [(.lit (.int .u32 (.lit 284)))]), (false, [(.lit (.int .i64 (.lit 3)))]), (false, [(.lit (.int .i64 (.lit 512)))]), (false, [(.lit .nilSlice)])], false, r74_0c0⟩
theorem sv74 (G : Nat → Option Nat) (D : Hp) : SmValid Tryz.prog (GofSm G sm74) (DofSm D sm74) 88 sm74 := smValid0 (T := T74) (fuel := 2000) mixed hF (VT74 _ _) rfl r74_0k0
def T75 : List (Nat × List Sm) := [(88, [sm53, sm54, sm55, sm56, sm57, sm58, sm59, sm60, sm61, sm62, sm63, sm64, sm65, sm66, sm67, sm68, sm69, sm70, sm71, sm72, sm73, sm74]), (17, [sm51, sm52]), (9, [sm30, sm31, sm32, sm33, sm34, sm35, sm36, sm37, sm38, sm39, sm40, sm41, sm42, sm43, sm44, sm45, sm46, sm47, sm48, sm49, sm50]), (57, [sm8, sm9, sm10, sm11, sm12, sm13, sm14, sm15, sm16, sm17, sm18, sm19, sm20, sm21, sm22, sm23, sm24, sm25, sm26, sm27, sm28, sm29]), (78, [sm0, sm1, sm2, sm3, sm4, sm5, sm6, sm7])]
theorem VT75 (G : Nat → Option Nat) (D : Hp) : AllV Tryz.prog G D T75 := ⟨fun sm h => by
  simp only [List.mem_cons, List.not_mem_nil, or_false] at h
  rcases h with rfl | rfl | rfl | rfl | rfl | rfl | rfl | rfl | rfl | rfl | rfl | rfl | rfl | rfl | rfl | rfl | rfl | rfl | rfl | rfl | rfl | rfl
  · exact sv53 G D
  · exact sv54 G D
  · exact sv55 G D
  · exact sv56 G D
  · exact sv57 G D
  · exact sv58 G D
  · exact sv59 G D
  · exact sv60 G D
  · exact sv61 G D
  · exact sv62 G D
  · exact sv63 G D
  · exact sv64 G D
  · exact sv65 G D
  · exact sv66 G D
  · exact sv67 G D
  · exact sv68 G D
  · exact sv69 G D
  · exact sv70 G D
  · exact sv71 G D
  · exact sv72 G D
  · exact sv73 G D
  · exact sv74 G D, ⟨fun sm h => by
  simp only [List.mem_cons, List.not_mem_nil, or_false] at h
  rcases h with rfl | rfl
  · exact sv51 G D
  · exact sv52 G D, ⟨fun sm h => by
  simp only [List.mem_cons, List.not_mem_nil, or_false] at h
  rcases h with rfl | rfl | rfl | rfl | rfl | rfl | rfl | rfl | rfl | rfl | rfl | rfl | rfl | rfl | rfl | rfl | rfl | rfl | rfl | rfl | rfl
  · exact sv30 G D
  · exact sv31 G D
  · exact sv32 G D
  · exact sv33 G D
  · exact sv34 G D
  · exact sv35 G D
  · exact sv36 G D
  · exact sv37 G D
  · exact sv38 G D
  · exact sv39 G D
  · exact sv40 G D
  · exact sv41 G D
  · exact sv42 G D
  · exact sv43 G D
  · exact sv44 G D
  · exact sv45 G D
  · exact sv46 G D
  · exact sv47 G D
  · exact sv48 G D
  · exact sv49 G D
  · exact sv50 G D, ⟨fun sm h => by
  simp only [List.mem_cons, List.not_mem_nil, or_false] at h
  rcases h with rfl | rfl | rfl | rfl | rfl | rfl | rfl | rfl | rfl | rfl | rfl | rfl | rfl | rfl | rfl | rfl | rfl | rfl | rfl | rfl | rfl | rfl
  · exact sv8 G D
  · exact sv9 G D
  · exact sv10 G D
  · exact sv11 G D
  · exact sv12 G D
  · exact sv13 G D
  · exact sv14 G D
  · exact sv15 G D
  · exact sv16 G D
  · exact sv17 G D
  · exact sv18 G D
  · exact sv19 G D
  · exact sv20 G D
  · exact sv21 G D
  · exact sv22 G D
  · exact sv23 G D
  · exact sv24 G D
  · exact sv25 G D
  · exact sv26 G D
  · exact sv27 G D
  · exact sv28 G D
  · exact sv29 G D, ⟨fun sm h => by
  simp only [List.mem_cons, List.not_mem_nil, or_false] at h
  rcases h with rfl | rfl | rfl | rfl | rfl | rfl | rfl | rfl
  · exact sv0 G D
  · exact sv1 G D
  · exact sv2 G D
  · exact sv3 G D
  · exact sv4 G D
  · exact sv5 G D
  · exact sv6 G D
  · exact sv7 G D, trivial⟩⟩⟩⟩⟩
noncomputable def M75 : TT (SV × SP) := evFnD (cfgT F (fun _ => none) hpE T75) 2000 97 (patAs 0 [(false, [(.lit (.int .i64 (.lit 18)))])]) ⟨hpE, []⟩
def spc75 : PC := []
def r75_0c0 : RT := (.leaf (.int .i64 (.lit 4)))
theorem r75_0k0 : r75_0c0.ok 0 M75 spc75 = true := by kernel_rfl
def sm75 : Sm := ⟨[(false, [(.lit (.int .i64 (.lit 18)))])], false, r75_0c0⟩
theorem sv75 (G : Nat → Option Nat) (D : Hp) : SmValid Tryz.prog (GofSm G sm75) (DofSm D sm75) 97 sm75 := smValid0 (T := T75) (fuel := 2000) mixed hF (VT75 _ _) rfl r75_0k0
def T76 : List (Nat × List Sm) := [(97, [sm75]), (88, [sm53, sm54, sm55, sm56, sm57, sm58, sm59, sm60, sm61, sm62, sm63, sm64, sm65, sm66, sm67, sm68, sm69, sm70, sm71, sm72, sm73, sm74]), (17, [sm51, sm52]), (9, [sm30, sm31, sm32, sm33, sm34, sm35, sm36, sm37, sm38, sm39, sm40, sm41, sm42, sm43, sm44, sm45, sm46, sm47, sm48, sm49, sm50]), (57, [sm8, sm9, sm10, sm11, sm12, sm13, sm14, sm15, sm16, sm17, sm18, sm19, sm20, sm21, sm22, sm23, sm24, sm25, sm26, sm27, sm28, sm29]), (78, [sm0, sm1, sm2, sm3, sm4, sm5, sm6, sm7])]
theorem VT76 (G : Nat → Option Nat) (D : Hp) : AllV Tryz.prog G D T76 := ⟨fun sm h => by
  simp only [List.mem_cons, List.not_mem_nil, or_false] at h
  rcases h with rfl
  · exact sv75 G D, ⟨fun sm h => by
  simp only [List.mem_cons, List.not_mem_nil, or_false] at h
  rcases h with rfl | rfl | rfl | rfl | rfl | rfl | rfl | rfl | rfl | rfl | rfl | rfl | rfl | rfl | rfl | rfl | rfl | rfl | rfl | rfl | rfl | rfl
  · exact sv53 G D
  · exact sv54 G D
  · exact sv55 G D
  · exact sv56 G D
  · exact sv57 G D
  · exact sv58 G D
  · exact sv59 G D
  · exact sv60 G D
  · exact sv61 G D
  · exact sv62 G D
  · exact sv63 G D
  · exact sv64 G D
  · exact sv65 G D
  · exact sv66 G D
  · exact sv67 G D
  · exact sv68 G D
  · exact sv69 G D
  · exact sv70 G D
  · exact sv71 G D
  · exact sv72 G D
  · exact sv73 G D
  · exact sv74 G D, ⟨fun sm h => by
  simp only [List.mem_cons, List.not_mem_nil, or_false] at h
  rcases h with rfl | rfl
  · exact sv51 G D
  · exact sv52 G D, ⟨fun sm h => by
  simp only [List.mem_cons, List.not_mem_nil, or_false] at h
  rcases h with rfl | rfl | rfl | rfl | rfl | rfl | rfl | rfl | rfl | rfl | rfl | rfl | rfl | rfl | rfl | rfl | rfl | rfl | rfl | rfl | rfl
  · exact sv30 G D
  · exact sv31 G D
  · exact sv32 G D
  · exact sv33 G D
  · exact sv34 G D
  · exact sv35 G D
  · exact sv36 G D
  · exact sv37 G D
  · exact sv38 G D
  · exact sv39 G D
  · exact sv40 G D
  · exact sv41 G D
  · exact sv42 G D
  · exact sv43 G D
  · exact sv44 G D
  · exact sv45 G D
  · exact sv46 G D
  · exact sv47 G D
  · exact sv48 G D
  · exact sv49 G D
  · exact sv50 G D, ⟨fun sm h => by
  simp only [List.mem_cons, List.not_mem_nil, or_false] at h
  rcases h with rfl | rfl | rfl | rfl | rfl | rfl | rfl | rfl | rfl | rfl | rfl | rfl | rfl | rfl | rfl | rfl | rfl | rfl | rfl | rfl | rfl | rfl
  · exact sv8 G D
  · exact sv9 G D
  · exact sv10 G D
  · exact sv11 G D
  · exact sv12 G D
  · exact sv13 G D
  · exact sv14 G D
  · exact sv15 G D
  · exact sv16 G D
  · exact sv17 G D
  · exact sv18 G D
  · exact sv19 G D
  · exact sv20 G D
  · exact sv21 G D
  · exact sv22 G D
  · exact sv23 G D
  · exact sv24 G D
  · exact sv25 G D
  · exact sv26 G D
  · exact sv27 G D
  · exact sv28 G D
  · exact sv29 G D, ⟨fun sm h => by
  simp only [List.mem_cons, List.not_mem_nil, or_false] at h
  rcases h with rfl | rfl | rfl | rfl | rfl | rfl | rfl | rfl
  · exact sv0 G D
  · exact sv1 G D
  · exact sv2 G D
  · exact sv3 G D
  · exact sv4 G D
  · exact sv5 G D
  · exact sv6 G D
  · exact sv7 G D, trivial⟩⟩⟩⟩⟩⟩
noncomputable def M76 : TT (SV × SP) := evFnD (cfgT F (fun _ => none) hpE T76) 2000 97 (patAs 0 [(false, [(.lit (.int .i64 (.lit 59)))])]) ⟨hpE, []⟩
def spc76 : PC := []
def r76_0c0 : RT := (.leaf (.int .i64 (.lit 4)))
theorem r76_0k0 : r76_0c0.ok 0 M76 spc76 = true := by kernel_rfl
def sm76 : Sm := ⟨[(false, [(.lit (.int .i64 (.lit 59)))])], false, r76_0c0⟩
theorem sv76 (G : Nat → Option Nat) (D : Hp) : SmValid Tryz.prog (GofSm G sm76) (DofSm D sm76) 97 sm76 := smValid0 (T := T76) (fuel := 2000) mixed hF (VT76 _ _) rfl r76_0k0
def T77 : List (Nat × List Sm) := [(97, [sm75, sm76]), (88, [sm53, sm54, sm55, sm56, sm57, sm58, sm59, sm60, sm61, sm62, sm63, sm64, sm65, sm66, sm67, sm68, sm69, sm70, sm71, sm72, sm73, sm74]), (17, [sm51, sm52]), (9, [sm30, sm31, sm32, sm33, sm34, sm35, sm36, sm37, sm38, sm39, sm40, sm41, sm42, sm43, sm44, sm45, sm46, sm47, sm48, sm49, sm50]), (57, [sm8, sm9, sm10, sm11, sm12, sm13, sm14, sm15, sm16, sm17, sm18, sm19, sm20, sm21, sm22, sm23, sm24, sm25, sm26, sm27, sm28, sm29]), (78, [sm0, sm1, sm2, sm3, sm4, sm5, sm6, sm7])]
theorem VT77 (G : Nat → Option Nat) (D : Hp) : AllV Tryz.prog G D T77 := ⟨fun sm h => by
  simp only [List.mem_cons, List.not_mem_nil, or_false] at h
  rcases h with rfl | rfl
  · exact sv75 G D
  · exact sv76 G D, ⟨fun sm h => by
  simp only [List.mem_cons, List.not_mem_nil, or_false] at h
  rcases h with rfl | rfl | rfl | rfl | rfl | rfl | rfl | rfl | rfl | rfl | rfl | rfl | rfl | rfl | rfl | rfl | rfl | rfl | rfl | rfl | rfl | rfl
  · exact sv53 G D
  · exact sv54 G D
  · exact sv55 G D
  · exact sv56 G D
  · exact sv57 G D
  · exact sv58 G D
  · exact sv59 G D
  · exact sv60 G D
  · exact sv61 G D
  · exact sv62 G D
  · exact sv63 G D
  · exact sv64 G D
  · exact sv65 G D
  · exact sv66 G D
  · exact sv67 G D
  · exact sv68 G D
  · exact sv69 G D
  · exact sv70 G D
  · exact sv71 G D
  · exact sv72 G D
  · exact sv73 G D
  · exact sv74 G D, ⟨fun sm h => by
  simp only [List.mem_cons, List.not_mem_nil, or_false] at h
  rcases h with rfl | rfl
  · exact sv51 G D
  · exact sv52 G D, ⟨fun sm h => by
  simp only [List.mem_cons, List.not_mem_nil, or_false] at h
  rcases h with rfl | rfl | rfl | rfl | rfl | rfl | rfl | rfl | rfl | rfl | rfl | rfl | rfl | rfl | rfl | rfl | rfl | rfl | rfl | rfl | rfl
  · exact sv30 G D
  · exact sv31 G D
  · exact sv32 G D
  · exact sv33 G D
  · exact sv34 G D
  · exact sv35 G D
  · exact sv36 G D
  · exact sv37 G D
  · exact sv38 G D
  · exact sv39 G D
  · exact sv40 G D
  · exact sv41 G D
  · exact sv42 G D
  · exact sv43 G D
  · exact sv44 G D
  · exact sv45 G D
  · exact sv46 G D
  · exact sv47 G D
  · exact sv48 G D
  · exact sv49 G D
  · exact sv50 G D, ⟨fun sm h => by
  simp only [List.mem_cons, List.not_mem_nil, or_false] at h
  rcases h with rfl | rfl | rfl | rfl | rfl | rfl | rfl | rfl | rfl | rfl | rfl | rfl | rfl | rfl | rfl | rfl | rfl | rfl | rfl | rfl | rfl | rfl
  · exact sv8 G D
  · exact sv9 G D
  · exact sv10 G D
  · exact sv11 G D
  · exact sv12 G D
  · exact sv13 G D
  · exact sv14 G D
  · exact sv15 G D
  · exact sv16 G D
  · exact sv17 G D
  · exact sv18 G D
  · exact sv19 G D
  · exact sv20 G D
  · exact sv21 G D
  · exact sv22 G D
  · exact sv23 G D
  · exact sv24 G D
  · exact sv25 G D
  · exact sv26 G D
  · exact sv27 G D
  · exact sv28 G D
  · exact sv29 G D, ⟨fun sm h => by
  simp only [List.mem_cons, List.not_mem_nil, or_false] at h
  rcases h with rfl | rfl | rfl | rfl | rfl | rfl | rfl | rfl
  · exact sv0 G D
  · exact sv1 G D
  · exact sv2 G D
  · exact sv3 G D
  · exact sv4 G D
  · exact sv5 G D
  · exact sv6 G D
  · exact sv7 G D, trivial⟩⟩⟩⟩⟩⟩
noncomputable def M77 : TT (SV × SP) := evFnD (cfgT F (fun _ => none) hpE T77) 2000 97 (patAs 0 [(false, [(.lit (.int .i64 (.lit 60)))])]) ⟨hpE, []⟩
def spc77 : PC := []
def r77_0c0 : RT := (.leaf (.int .i64 (.lit 4)))
theorem r77_0k0 : r77_0c0.ok 0 M77 spc77 = true := by kernel_rfl
def sm77 : Sm := ⟨[(false, [(.lit (.int .i64 (.lit 60)))])], false, r77_0c0⟩
theorem sv77 (G : Nat → Option Nat) (D : Hp) : SmValid Tryz.prog (GofSm G sm77) (DofSm D sm77) 97 sm77 := smValid0 (T := T77) (fuel := 2000) mixed hF (VT77 _ _) rfl r77_0k0
def TL : List (Nat × List Sm) := [(97, [sm75, sm76, sm77]), (88, [sm53, sm54, sm55, sm56, sm57, sm58, sm59, sm60, sm61, sm62, sm63, sm64, sm65, sm66, sm67, sm68, sm69, sm70, sm71, sm72, sm73, sm74]), (17, [sm51, sm52]), (9, [sm30, sm31, sm32, sm33, sm34, sm35, sm36, sm37, sm38, sm39, sm40, sm41, sm42, sm43, sm44, sm45, sm46, sm47, sm48, sm49, sm50]), (57, [sm8, sm9, sm10, sm11, sm12, sm13, sm14, sm15, sm16, sm17, sm18, sm19, sm20, sm21, sm22, sm23, sm24, sm25, sm26, sm27, sm28, sm29]), (78, [sm0, sm1, sm2, sm3, sm4, sm5, sm6, sm7])]
theorem VTL : AllV Tryz.prog G doorH TL := ⟨fun sm h => by
  simp only [List.mem_cons, List.not_mem_nil, or_false] at h
  rcases h with rfl | rfl | rfl
  · exact sv75 G doorH
  · exact sv76 G doorH
  · exact sv77 G doorH, ⟨fun sm h => by
  simp only [List.mem_cons, List.not_mem_nil, or_false] at h
  rcases h with rfl | rfl | rfl | rfl | rfl | rfl | rfl | rfl | rfl | rfl | rfl | rfl | rfl | rfl | rfl | rfl | rfl | rfl | rfl | rfl | rfl | rfl
  · exact sv53 G doorH
  · exact sv54 G doorH
  · exact sv55 G doorH
  · exact sv56 G doorH
  · exact sv57 G doorH
  · exact sv58 G doorH
  · exact sv59 G doorH
  · exact sv60 G doorH
  · exact sv61 G doorH
  · exact sv62 G doorH
  · exact sv63 G doorH
  · exact sv64 G doorH
  · exact sv65 G doorH
  · exact sv66 G doorH
  · exact sv67 G doorH
  · exact sv68 G doorH
  · exact sv69 G doorH
  · exact sv70 G doorH
  · exact sv71 G doorH
  · exact sv72 G doorH
  · exact sv73 G doorH
  · exact sv74 G doorH, ⟨fun sm h => by
  simp only [List.mem_cons, List.not_mem_nil, or_false] at h
  rcases h with rfl | rfl
  · exact sv51 G doorH
  · exact sv52 G doorH, ⟨fun sm h => by
  simp only [List.mem_cons, List.not_mem_nil, or_false] at h
  rcases h with rfl | rfl | rfl | rfl | rfl | rfl | rfl | rfl | rfl | rfl | rfl | rfl | rfl | rfl | rfl | rfl | rfl | rfl | rfl | rfl | rfl
  · exact sv30 G doorH
  · exact sv31 G doorH
  · exact sv32 G doorH
  · exact sv33 G doorH
  · exact sv34 G doorH
  · exact sv35 G doorH
  · exact sv36 G doorH
  · exact sv37 G doorH
  · exact sv38 G doorH
  · exact sv39 G doorH
  · exact sv40 G doorH
  · exact sv41 G doorH
  · exact sv42 G doorH
  · exact sv43 G doorH
  · exact sv44 G doorH
  · exact sv45 G doorH
  · exact sv46 G doorH
  · exact sv47 G doorH
  · exact sv48 G doorH
  · exact sv49 G doorH
  · exact sv50 G doorH, ⟨fun sm h => by
  simp only [List.mem_cons, List.not_mem_nil, or_false] at h
  rcases h with rfl | rfl | rfl | rfl | rfl | rfl | rfl | rfl | rfl | rfl | rfl | rfl | rfl | rfl | rfl | rfl | rfl | rfl | rfl | rfl | rfl | rfl
  · exact sv8 G doorH
  · exact sv9 G doorH
  · exact sv10 G doorH
  · exact sv11 G doorH
  · exact sv12 G doorH
  · exact sv13 G doorH
  · exact sv14 G doorH
  · exact sv15 G doorH
  · exact sv16 G doorH
  · exact sv17 G doorH
  · exact sv18 G doorH
  · exact sv19 G doorH
  · exact sv20 G doorH
  · exact sv21 G doorH
  · exact sv22 G doorH
  · exact sv23 G doorH
  · exact sv24 G doorH
  · exact sv25 G doorH
  · exact sv26 G doorH
  · exact sv27 G doorH
  · exact sv28 G doorH
  · exact sv29 G doorH, ⟨fun sm h => by
  simp only [List.mem_cons, List.not_mem_nil, or_false] at h
  rcases h with rfl | rfl | rfl | rfl | rfl | rfl | rfl | rfl
  · exact sv0 G doorH
  · exact sv1 G doorH
  · exact sv2 G doorH
  · exact sv3 G doorH
  · exact sv4 G doorH
  · exact sv5 G doorH
  · exact sv6 G doorH
  · exact sv7 G doorH, trivial⟩⟩⟩⟩⟩⟩
noncomputable def CL : Cfg := cfgT F G doorH TL
end Go.Proofs.YtaclekenckkgcaaGreatDoor.seqHolds

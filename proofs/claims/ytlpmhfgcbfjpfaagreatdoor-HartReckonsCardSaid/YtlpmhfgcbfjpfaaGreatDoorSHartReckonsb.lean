/- Summaries of functions that HartReckons comes to, held against their runs. No condition. -/
import Derived.Test.YtlpmhfgcbfjpfaaGreatDoorSHartReckonsa
namespace Go.Proofs.YtlpmhfgcbfjpfaaGreatDoor.hartReckons
open Go.Sx
set_option linter.unusedVariables false
set_option linter.unusedSimpArgs false
set_option maxRecDepth 1000000
def T54 : List (Nat × List Sm) := [(120, [sm1, sm2, sm3, sm4, sm5, sm6, sm7, sm8, sm9, sm10, sm11, sm12, sm13, sm14, sm15, sm16, sm17, sm18, sm19, sm20, sm21, sm22, sm23, sm24, sm25, sm26, sm27, sm28, sm29, sm30, sm31, sm32, sm33, sm34, sm35, sm36, sm37, sm38, sm39, sm40, sm41, sm42, sm43, sm44, sm45, sm46, sm47, sm48, sm49, sm50, sm51, sm52, sm53]), (151, [sm0])]
theorem VT54 (G : Nat → Option Nat) (D : Hp) : AllV Tryz.prog G D T54 := ⟨fun sm h => by
  simp only [List.mem_cons, List.not_mem_nil, or_false] at h
  rcases h with rfl | rfl | rfl | rfl | rfl | rfl | rfl | rfl | rfl | rfl | rfl | rfl | rfl | rfl | rfl | rfl | rfl | rfl | rfl | rfl | rfl | rfl | rfl | rfl | rfl | rfl | rfl | rfl | rfl | rfl | rfl | rfl | rfl | rfl | rfl | rfl | rfl | rfl | rfl | rfl | rfl | rfl | rfl | rfl | rfl | rfl | rfl | rfl | rfl | rfl | rfl | rfl | rfl
  · exact sv1 G D
  · exact sv2 G D
  · exact sv3 G D
  · exact sv4 G D
  · exact sv5 G D
  · exact sv6 G D
  · exact sv7 G D
  · exact sv8 G D
  · exact sv9 G D
  · exact sv10 G D
  · exact sv11 G D
  · exact sv12 G D
  · exact sv13 G D
  · exact sv14 G D
  · exact sv15 G D
  · exact sv16 G D
  · exact sv17 G D
  · exact sv18 G D
  · exact sv19 G D
  · exact sv20 G D
  · exact sv21 G D
  · exact sv22 G D
  · exact sv23 G D
  · exact sv24 G D
  · exact sv25 G D
  · exact sv26 G D
  · exact sv27 G D
  · exact sv28 G D
  · exact sv29 G D
  · exact sv30 G D
  · exact sv31 G D
  · exact sv32 G D
  · exact sv33 G D
  · exact sv34 G D
  · exact sv35 G D
  · exact sv36 G D
  · exact sv37 G D
  · exact sv38 G D
  · exact sv39 G D
  · exact sv40 G D
  · exact sv41 G D
  · exact sv42 G D
  · exact sv43 G D
  · exact sv44 G D
  · exact sv45 G D
  · exact sv46 G D
  · exact sv47 G D
  · exact sv48 G D
  · exact sv49 G D
  · exact sv50 G D
  · exact sv51 G D
  · exact sv52 G D
  · exact sv53 G D, ⟨fun sm h => by
  simp only [List.mem_cons, List.not_mem_nil, or_false] at h
  rcases h with rfl
  · exact sv0 G D, trivial⟩⟩
noncomputable def M54 : TT (SV × SP) := evFnD (cfgT F (fun _ => none) hpE T54) 2000 120 (patAs 0 [(true, [(.lit (.int .i64 (.lit 54))), (.lit (.str ⟨#[109, 117, 108, 104, 117]⟩)), (.lit (.int .i64 (.lit 6))), (.lit (.int .u32 (.lit 51))), (.lit (.int .u32 (.lit 3))), (.lit (.int .u32 (.lit 1))), (.lit (.int .i64 (.lit 1)))]), (false, [(.int .u32)])]) ⟨hpE, []⟩
def spc54 : PC := []
def r54_0c0 : RT := (.node (.cmp .eql (.bin .and .u32 (.cv .u32 (.var 0)) (.lit 127)) (.lit 51)) (.node (.cmp .eql (.bin .and .u32 (.bin .shr .u32 (.cv .u32 (.var 0)) (.lit 12)) (.lit 7)) (.lit 3)) (.leaf (.bool (.cmp .eql (.bin .shr .u32 (.cv .u32 (.var 0)) (.lit 25)) (.lit 1))))
 (.leaf (.bool (.lit false))))
 (.leaf (.bool (.lit false))))
theorem r54_0k0 : r54_0c0.ok 0 M54 spc54 = true := by kernel_rfl
def sm54 : Sm := ⟨[(true, [(.lit (.int .i64 (.lit 54))), (.lit (.str ⟨#[109, 117, 108, 104, 117]⟩)), (.lit (.int .i64 (.lit 6))), (.lit (.int .u32 (.lit 51))), (.lit (.int .u32 (.lit 3))), (.lit (.int .u32 (.lit 1))), (.lit (.int .i64 (.lit 1)))]), (false, [(.int .u32)])], false, r54_0c0⟩
theorem sv54 (G : Nat → Option Nat) (D : Hp) : SmValid Tryz.prog (GofSm G sm54) (DofSm D sm54) 120 sm54 := smValid0 (T := T54) (fuel := 2000) mixed hF (VT54 _ _) rfl r54_0k0
def T55 : List (Nat × List Sm) := [(120, [sm1, sm2, sm3, sm4, sm5, sm6, sm7, sm8, sm9, sm10, sm11, sm12, sm13, sm14, sm15, sm16, sm17, sm18, sm19, sm20, sm21, sm22, sm23, sm24, sm25, sm26, sm27, sm28, sm29, sm30, sm31, sm32, sm33, sm34, sm35, sm36, sm37, sm38, sm39, sm40, sm41, sm42, sm43, sm44, sm45, sm46, sm47, sm48, sm49, sm50, sm51, sm52, sm53, sm54]), (151, [sm0])]
theorem VT55 (G : Nat → Option Nat) (D : Hp) : AllV Tryz.prog G D T55 := ⟨fun sm h => by
  simp only [List.mem_cons, List.not_mem_nil, or_false] at h
  rcases h with rfl | rfl | rfl | rfl | rfl | rfl | rfl | rfl | rfl | rfl | rfl | rfl | rfl | rfl | rfl | rfl | rfl | rfl | rfl | rfl | rfl | rfl | rfl | rfl | rfl | rfl | rfl | rfl | rfl | rfl | rfl | rfl | rfl | rfl | rfl | rfl | rfl | rfl | rfl | rfl | rfl | rfl | rfl | rfl | rfl | rfl | rfl | rfl | rfl | rfl | rfl | rfl | rfl | rfl
  · exact sv1 G D
  · exact sv2 G D
  · exact sv3 G D
  · exact sv4 G D
  · exact sv5 G D
  · exact sv6 G D
  · exact sv7 G D
  · exact sv8 G D
  · exact sv9 G D
  · exact sv10 G D
  · exact sv11 G D
  · exact sv12 G D
  · exact sv13 G D
  · exact sv14 G D
  · exact sv15 G D
  · exact sv16 G D
  · exact sv17 G D
  · exact sv18 G D
  · exact sv19 G D
  · exact sv20 G D
  · exact sv21 G D
  · exact sv22 G D
  · exact sv23 G D
  · exact sv24 G D
  · exact sv25 G D
  · exact sv26 G D
  · exact sv27 G D
  · exact sv28 G D
  · exact sv29 G D
  · exact sv30 G D
  · exact sv31 G D
  · exact sv32 G D
  · exact sv33 G D
  · exact sv34 G D
  · exact sv35 G D
  · exact sv36 G D
  · exact sv37 G D
  · exact sv38 G D
  · exact sv39 G D
  · exact sv40 G D
  · exact sv41 G D
  · exact sv42 G D
  · exact sv43 G D
  · exact sv44 G D
  · exact sv45 G D
  · exact sv46 G D
  · exact sv47 G D
  · exact sv48 G D
  · exact sv49 G D
  · exact sv50 G D
  · exact sv51 G D
  · exact sv52 G D
  · exact sv53 G D
  · exact sv54 G D, ⟨fun sm h => by
  simp only [List.mem_cons, List.not_mem_nil, or_false] at h
  rcases h with rfl
  · exact sv0 G D, trivial⟩⟩
noncomputable def M55 : TT (SV × SP) := evFnD (cfgT F (fun _ => none) hpE T55) 2000 120 (patAs 0 [(true, [(.lit (.int .i64 (.lit 55))), (.lit (.str ⟨#[100, 105, 118]⟩)), (.lit (.int .i64 (.lit 6))), (.lit (.int .u32 (.lit 51))), (.lit (.int .u32 (.lit 4))), (.lit (.int .u32 (.lit 1))), (.lit (.int .i64 (.lit 1)))]), (false, [(.int .u32)])]) ⟨hpE, []⟩
def spc55 : PC := []
def r55_0c0 : RT := (.node (.cmp .eql (.bin .and .u32 (.cv .u32 (.var 0)) (.lit 127)) (.lit 51)) (.node (.cmp .eql (.bin .and .u32 (.bin .shr .u32 (.cv .u32 (.var 0)) (.lit 12)) (.lit 7)) (.lit 4)) (.leaf (.bool (.cmp .eql (.bin .shr .u32 (.cv .u32 (.var 0)) (.lit 25)) (.lit 1))))
 (.leaf (.bool (.lit false))))
 (.leaf (.bool (.lit false))))
theorem r55_0k0 : r55_0c0.ok 0 M55 spc55 = true := by kernel_rfl
def sm55 : Sm := ⟨[(true, [(.lit (.int .i64 (.lit 55))), (.lit (.str ⟨#[100, 105, 118]⟩)), (.lit (.int .i64 (.lit 6))), (.lit (.int .u32 (.lit 51))), (.lit (.int .u32 (.lit 4))), (.lit (.int .u32 (.lit 1))), (.lit (.int .i64 (.lit 1)))]), (false, [(.int .u32)])], false, r55_0c0⟩
theorem sv55 (G : Nat → Option Nat) (D : Hp) : SmValid Tryz.prog (GofSm G sm55) (DofSm D sm55) 120 sm55 := smValid0 (T := T55) (fuel := 2000) mixed hF (VT55 _ _) rfl r55_0k0
def T56 : List (Nat × List Sm) := [(120, [sm1, sm2, sm3, sm4, sm5, sm6, sm7, sm8, sm9, sm10, sm11, sm12, sm13, sm14, sm15, sm16, sm17, sm18, sm19, sm20, sm21, sm22, sm23, sm24, sm25, sm26, sm27, sm28, sm29, sm30, sm31, sm32, sm33, sm34, sm35, sm36, sm37, sm38, sm39, sm40, sm41, sm42, sm43, sm44, sm45, sm46, sm47, sm48, sm49, sm50, sm51, sm52, sm53, sm54, sm55]), (151, [sm0])]
theorem VT56 (G : Nat → Option Nat) (D : Hp) : AllV Tryz.prog G D T56 := ⟨fun sm h => by
  simp only [List.mem_cons, List.not_mem_nil, or_false] at h
  rcases h with rfl | rfl | rfl | rfl | rfl | rfl | rfl | rfl | rfl | rfl | rfl | rfl | rfl | rfl | rfl | rfl | rfl | rfl | rfl | rfl | rfl | rfl | rfl | rfl | rfl | rfl | rfl | rfl | rfl | rfl | rfl | rfl | rfl | rfl | rfl | rfl | rfl | rfl | rfl | rfl | rfl | rfl | rfl | rfl | rfl | rfl | rfl | rfl | rfl | rfl | rfl | rfl | rfl | rfl | rfl
  · exact sv1 G D
  · exact sv2 G D
  · exact sv3 G D
  · exact sv4 G D
  · exact sv5 G D
  · exact sv6 G D
  · exact sv7 G D
  · exact sv8 G D
  · exact sv9 G D
  · exact sv10 G D
  · exact sv11 G D
  · exact sv12 G D
  · exact sv13 G D
  · exact sv14 G D
  · exact sv15 G D
  · exact sv16 G D
  · exact sv17 G D
  · exact sv18 G D
  · exact sv19 G D
  · exact sv20 G D
  · exact sv21 G D
  · exact sv22 G D
  · exact sv23 G D
  · exact sv24 G D
  · exact sv25 G D
  · exact sv26 G D
  · exact sv27 G D
  · exact sv28 G D
  · exact sv29 G D
  · exact sv30 G D
  · exact sv31 G D
  · exact sv32 G D
  · exact sv33 G D
  · exact sv34 G D
  · exact sv35 G D
  · exact sv36 G D
  · exact sv37 G D
  · exact sv38 G D
  · exact sv39 G D
  · exact sv40 G D
  · exact sv41 G D
  · exact sv42 G D
  · exact sv43 G D
  · exact sv44 G D
  · exact sv45 G D
  · exact sv46 G D
  · exact sv47 G D
  · exact sv48 G D
  · exact sv49 G D
  · exact sv50 G D
  · exact sv51 G D
  · exact sv52 G D
  · exact sv53 G D
  · exact sv54 G D
  · exact sv55 G D, ⟨fun sm h => by
  simp only [List.mem_cons, List.not_mem_nil, or_false] at h
  rcases h with rfl
  · exact sv0 G D, trivial⟩⟩
noncomputable def M56 : TT (SV × SP) := evFnD (cfgT F (fun _ => none) hpE T56) 2000 120 (patAs 0 [(true, [(.lit (.int .i64 (.lit 56))), (.lit (.str ⟨#[100, 105, 118, 117]⟩)), (.lit (.int .i64 (.lit 6))), (.lit (.int .u32 (.lit 51))), (.lit (.int .u32 (.lit 5))), (.lit (.int .u32 (.lit 1))), (.lit (.int .i64 (.lit 1)))]), (false, [(.int .u32)])]) ⟨hpE, []⟩
def spc56 : PC := []
def r56_0c0 : RT := (.node (.cmp .eql (.bin .and .u32 (.cv .u32 (.var 0)) (.lit 127)) (.lit 51)) (.node (.cmp .eql (.bin .and .u32 (.bin .shr .u32 (.cv .u32 (.var 0)) (.lit 12)) (.lit 7)) (.lit 5)) (.leaf (.bool (.cmp .eql (.bin .shr .u32 (.cv .u32 (.var 0)) (.lit 25)) (.lit 1))))
 (.leaf (.bool (.lit false))))
 (.leaf (.bool (.lit false))))
theorem r56_0k0 : r56_0c0.ok 0 M56 spc56 = true := by kernel_rfl
def sm56 : Sm := ⟨[(true, [(.lit (.int .i64 (.lit 56))), (.lit (.str ⟨#[100, 105, 118, 117]⟩)), (.lit (.int .i64 (.lit 6))), (.lit (.int .u32 (.lit 51))), (.lit (.int .u32 (.lit 5))), (.lit (.int .u32 (.lit 1))), (.lit (.int .i64 (.lit 1)))]), (false, [(.int .u32)])], false, r56_0c0⟩
theorem sv56 (G : Nat → Option Nat) (D : Hp) : SmValid Tryz.prog (GofSm G sm56) (DofSm D sm56) 120 sm56 := smValid0 (T := T56) (fuel := 2000) mixed hF (VT56 _ _) rfl r56_0k0
def T57 : List (Nat × List Sm) := [(120, [sm1, sm2, sm3, sm4, sm5, sm6, sm7, sm8, sm9, sm10, sm11, sm12, sm13, sm14, sm15, sm16, sm17, sm18, sm19, sm20, sm21, sm22, sm23, sm24, sm25, sm26, sm27, sm28, sm29, sm30, sm31, sm32, sm33, sm34, sm35, sm36, sm37, sm38, sm39, sm40, sm41, sm42, sm43, sm44, sm45, sm46, sm47, sm48, sm49, sm50, sm51, sm52, sm53, sm54, sm55, sm56]), (151, [sm0])]
theorem VT57 (G : Nat → Option Nat) (D : Hp) : AllV Tryz.prog G D T57 := ⟨fun sm h => by
  simp only [List.mem_cons, List.not_mem_nil, or_false] at h
  rcases h with rfl | rfl | rfl | rfl | rfl | rfl | rfl | rfl | rfl | rfl | rfl | rfl | rfl | rfl | rfl | rfl | rfl | rfl | rfl | rfl | rfl | rfl | rfl | rfl | rfl | rfl | rfl | rfl | rfl | rfl | rfl | rfl | rfl | rfl | rfl | rfl | rfl | rfl | rfl | rfl | rfl | rfl | rfl | rfl | rfl | rfl | rfl | rfl | rfl | rfl | rfl | rfl | rfl | rfl | rfl | rfl
  · exact sv1 G D
  · exact sv2 G D
  · exact sv3 G D
  · exact sv4 G D
  · exact sv5 G D
  · exact sv6 G D
  · exact sv7 G D
  · exact sv8 G D
  · exact sv9 G D
  · exact sv10 G D
  · exact sv11 G D
  · exact sv12 G D
  · exact sv13 G D
  · exact sv14 G D
  · exact sv15 G D
  · exact sv16 G D
  · exact sv17 G D
  · exact sv18 G D
  · exact sv19 G D
  · exact sv20 G D
  · exact sv21 G D
  · exact sv22 G D
  · exact sv23 G D
  · exact sv24 G D
  · exact sv25 G D
  · exact sv26 G D
  · exact sv27 G D
  · exact sv28 G D
  · exact sv29 G D
  · exact sv30 G D
  · exact sv31 G D
  · exact sv32 G D
  · exact sv33 G D
  · exact sv34 G D
  · exact sv35 G D
  · exact sv36 G D
  · exact sv37 G D
  · exact sv38 G D
  · exact sv39 G D
  · exact sv40 G D
  · exact sv41 G D
  · exact sv42 G D
  · exact sv43 G D
  · exact sv44 G D
  · exact sv45 G D
  · exact sv46 G D
  · exact sv47 G D
  · exact sv48 G D
  · exact sv49 G D
  · exact sv50 G D
  · exact sv51 G D
  · exact sv52 G D
  · exact sv53 G D
  · exact sv54 G D
  · exact sv55 G D
  · exact sv56 G D, ⟨fun sm h => by
  simp only [List.mem_cons, List.not_mem_nil, or_false] at h
  rcases h with rfl
  · exact sv0 G D, trivial⟩⟩
noncomputable def M57 : TT (SV × SP) := evFnD (cfgT F (fun _ => none) hpE T57) 2000 120 (patAs 0 [(true, [(.lit (.int .i64 (.lit 57))), (.lit (.str ⟨#[114, 101, 109]⟩)), (.lit (.int .i64 (.lit 6))), (.lit (.int .u32 (.lit 51))), (.lit (.int .u32 (.lit 6))), (.lit (.int .u32 (.lit 1))), (.lit (.int .i64 (.lit 1)))]), (false, [(.int .u32)])]) ⟨hpE, []⟩
def spc57 : PC := []
def r57_0c0 : RT := (.node (.cmp .eql (.bin .and .u32 (.cv .u32 (.var 0)) (.lit 127)) (.lit 51)) (.node (.cmp .eql (.bin .and .u32 (.bin .shr .u32 (.cv .u32 (.var 0)) (.lit 12)) (.lit 7)) (.lit 6)) (.leaf (.bool (.cmp .eql (.bin .shr .u32 (.cv .u32 (.var 0)) (.lit 25)) (.lit 1))))
 (.leaf (.bool (.lit false))))
 (.leaf (.bool (.lit false))))
theorem r57_0k0 : r57_0c0.ok 0 M57 spc57 = true := by kernel_rfl
def sm57 : Sm := ⟨[(true, [(.lit (.int .i64 (.lit 57))), (.lit (.str ⟨#[114, 101, 109]⟩)), (.lit (.int .i64 (.lit 6))), (.lit (.int .u32 (.lit 51))), (.lit (.int .u32 (.lit 6))), (.lit (.int .u32 (.lit 1))), (.lit (.int .i64 (.lit 1)))]), (false, [(.int .u32)])], false, r57_0c0⟩
theorem sv57 (G : Nat → Option Nat) (D : Hp) : SmValid Tryz.prog (GofSm G sm57) (DofSm D sm57) 120 sm57 := smValid0 (T := T57) (fuel := 2000) mixed hF (VT57 _ _) rfl r57_0k0
def T58 : List (Nat × List Sm) := [(120, [sm1, sm2, sm3, sm4, sm5, sm6, sm7, sm8, sm9, sm10, sm11, sm12, sm13, sm14, sm15, sm16, sm17, sm18, sm19, sm20, sm21, sm22, sm23, sm24, sm25, sm26, sm27, sm28, sm29, sm30, sm31, sm32, sm33, sm34, sm35, sm36, sm37, sm38, sm39, sm40, sm41, sm42, sm43, sm44, sm45, sm46, sm47, sm48, sm49, sm50, sm51, sm52, sm53, sm54, sm55, sm56, sm57]), (151, [sm0])]
theorem VT58 (G : Nat → Option Nat) (D : Hp) : AllV Tryz.prog G D T58 := ⟨fun sm h => by
  simp only [List.mem_cons, List.not_mem_nil, or_false] at h
  rcases h with rfl | rfl | rfl | rfl | rfl | rfl | rfl | rfl | rfl | rfl | rfl | rfl | rfl | rfl | rfl | rfl | rfl | rfl | rfl | rfl | rfl | rfl | rfl | rfl | rfl | rfl | rfl | rfl | rfl | rfl | rfl | rfl | rfl | rfl | rfl | rfl | rfl | rfl | rfl | rfl | rfl | rfl | rfl | rfl | rfl | rfl | rfl | rfl | rfl | rfl | rfl | rfl | rfl | rfl | rfl | rfl | rfl
  · exact sv1 G D
  · exact sv2 G D
  · exact sv3 G D
  · exact sv4 G D
  · exact sv5 G D
  · exact sv6 G D
  · exact sv7 G D
  · exact sv8 G D
  · exact sv9 G D
  · exact sv10 G D
  · exact sv11 G D
  · exact sv12 G D
  · exact sv13 G D
  · exact sv14 G D
  · exact sv15 G D
  · exact sv16 G D
  · exact sv17 G D
  · exact sv18 G D
  · exact sv19 G D
  · exact sv20 G D
  · exact sv21 G D
  · exact sv22 G D
  · exact sv23 G D
  · exact sv24 G D
  · exact sv25 G D
  · exact sv26 G D
  · exact sv27 G D
  · exact sv28 G D
  · exact sv29 G D
  · exact sv30 G D
  · exact sv31 G D
  · exact sv32 G D
  · exact sv33 G D
  · exact sv34 G D
  · exact sv35 G D
  · exact sv36 G D
  · exact sv37 G D
  · exact sv38 G D
  · exact sv39 G D
  · exact sv40 G D
  · exact sv41 G D
  · exact sv42 G D
  · exact sv43 G D
  · exact sv44 G D
  · exact sv45 G D
  · exact sv46 G D
  · exact sv47 G D
  · exact sv48 G D
  · exact sv49 G D
  · exact sv50 G D
  · exact sv51 G D
  · exact sv52 G D
  · exact sv53 G D
  · exact sv54 G D
  · exact sv55 G D
  · exact sv56 G D
  · exact sv57 G D, ⟨fun sm h => by
  simp only [List.mem_cons, List.not_mem_nil, or_false] at h
  rcases h with rfl
  · exact sv0 G D, trivial⟩⟩
noncomputable def M58 : TT (SV × SP) := evFnD (cfgT F (fun _ => none) hpE T58) 2000 120 (patAs 0 [(true, [(.lit (.int .i64 (.lit 58))), (.lit (.str ⟨#[114, 101, 109, 117]⟩)), (.lit (.int .i64 (.lit 6))), (.lit (.int .u32 (.lit 51))), (.lit (.int .u32 (.lit 7))), (.lit (.int .u32 (.lit 1))), (.lit (.int .i64 (.lit 1)))]), (false, [(.int .u32)])]) ⟨hpE, []⟩
def spc58 : PC := []
def r58_0c0 : RT := (.node (.cmp .eql (.bin .and .u32 (.cv .u32 (.var 0)) (.lit 127)) (.lit 51)) (.node (.cmp .eql (.bin .and .u32 (.bin .shr .u32 (.cv .u32 (.var 0)) (.lit 12)) (.lit 7)) (.lit 7)) (.leaf (.bool (.cmp .eql (.bin .shr .u32 (.cv .u32 (.var 0)) (.lit 25)) (.lit 1))))
 (.leaf (.bool (.lit false))))
 (.leaf (.bool (.lit false))))
theorem r58_0k0 : r58_0c0.ok 0 M58 spc58 = true := by kernel_rfl
def sm58 : Sm := ⟨[(true, [(.lit (.int .i64 (.lit 58))), (.lit (.str ⟨#[114, 101, 109, 117]⟩)), (.lit (.int .i64 (.lit 6))), (.lit (.int .u32 (.lit 51))), (.lit (.int .u32 (.lit 7))), (.lit (.int .u32 (.lit 1))), (.lit (.int .i64 (.lit 1)))]), (false, [(.int .u32)])], false, r58_0c0⟩
theorem sv58 (G : Nat → Option Nat) (D : Hp) : SmValid Tryz.prog (GofSm G sm58) (DofSm D sm58) 120 sm58 := smValid0 (T := T58) (fuel := 2000) mixed hF (VT58 _ _) rfl r58_0k0
def T59 : List (Nat × List Sm) := [(120, [sm1, sm2, sm3, sm4, sm5, sm6, sm7, sm8, sm9, sm10, sm11, sm12, sm13, sm14, sm15, sm16, sm17, sm18, sm19, sm20, sm21, sm22, sm23, sm24, sm25, sm26, sm27, sm28, sm29, sm30, sm31, sm32, sm33, sm34, sm35, sm36, sm37, sm38, sm39, sm40, sm41, sm42, sm43, sm44, sm45, sm46, sm47, sm48, sm49, sm50, sm51, sm52, sm53, sm54, sm55, sm56, sm57, sm58]), (151, [sm0])]
theorem VT59 (G : Nat → Option Nat) (D : Hp) : AllV Tryz.prog G D T59 := ⟨fun sm h => by
  simp only [List.mem_cons, List.not_mem_nil, or_false] at h
  rcases h with rfl | rfl | rfl | rfl | rfl | rfl | rfl | rfl | rfl | rfl | rfl | rfl | rfl | rfl | rfl | rfl | rfl | rfl | rfl | rfl | rfl | rfl | rfl | rfl | rfl | rfl | rfl | rfl | rfl | rfl | rfl | rfl | rfl | rfl | rfl | rfl | rfl | rfl | rfl | rfl | rfl | rfl | rfl | rfl | rfl | rfl | rfl | rfl | rfl | rfl | rfl | rfl | rfl | rfl | rfl | rfl | rfl | rfl
  · exact sv1 G D
  · exact sv2 G D
  · exact sv3 G D
  · exact sv4 G D
  · exact sv5 G D
  · exact sv6 G D
  · exact sv7 G D
  · exact sv8 G D
  · exact sv9 G D
  · exact sv10 G D
  · exact sv11 G D
  · exact sv12 G D
  · exact sv13 G D
  · exact sv14 G D
  · exact sv15 G D
  · exact sv16 G D
  · exact sv17 G D
  · exact sv18 G D
  · exact sv19 G D
  · exact sv20 G D
  · exact sv21 G D
  · exact sv22 G D
  · exact sv23 G D
  · exact sv24 G D
  · exact sv25 G D
  · exact sv26 G D
  · exact sv27 G D
  · exact sv28 G D
  · exact sv29 G D
  · exact sv30 G D
  · exact sv31 G D
  · exact sv32 G D
  · exact sv33 G D
  · exact sv34 G D
  · exact sv35 G D
  · exact sv36 G D
  · exact sv37 G D
  · exact sv38 G D
  · exact sv39 G D
  · exact sv40 G D
  · exact sv41 G D
  · exact sv42 G D
  · exact sv43 G D
  · exact sv44 G D
  · exact sv45 G D
  · exact sv46 G D
  · exact sv47 G D
  · exact sv48 G D
  · exact sv49 G D
  · exact sv50 G D
  · exact sv51 G D
  · exact sv52 G D
  · exact sv53 G D
  · exact sv54 G D
  · exact sv55 G D
  · exact sv56 G D
  · exact sv57 G D
  · exact sv58 G D, ⟨fun sm h => by
  simp only [List.mem_cons, List.not_mem_nil, or_false] at h
  rcases h with rfl
  · exact sv0 G D, trivial⟩⟩
noncomputable def M59 : TT (SV × SP) := evFnD (cfgT F (fun _ => none) hpE T59) 2000 120 (patAs 0 [(true, [(.lit (.int .i64 (.lit 59))), (.lit (.str ⟨#[108, 114, 46, 119]⟩)), (.lit (.int .i64 (.lit 12))), (.lit (.int .u32 (.lit 47))), (.lit (.int .u32 (.lit 2))), (.lit (.int .u32 (.lit 2))), (.lit (.int .i64 (.lit 4)))]), (false, [(.int .u32)])]) ⟨hpE, []⟩
def spc59 : PC := []
def r59_0c0 : RT := (.node (.cmp .eql (.bin .and .u32 (.cv .u32 (.var 0)) (.lit 127)) (.lit 47)) (.node (.cmp .eql (.bin .and .u32 (.bin .shr .u32 (.cv .u32 (.var 0)) (.lit 12)) (.lit 7)) (.lit 2)) (.node (.cmp .eql (.bin .shr .u32 (.cv .u32 (.var 0)) (.lit 27)) (.lit 2)) (.leaf (.bool (.cmp .eql (.bin .and .u32 (.bin .shr .u32 (.cv .u32 (.var 0)) (.lit 20)) (.lit 31)) (.lit 0))))
 (.leaf (.bool (.lit false))))
 (.leaf (.bool (.lit false))))
 (.leaf (.bool (.lit false))))
theorem r59_0k0 : r59_0c0.ok 0 M59 spc59 = true := by kernel_rfl
def sm59 : Sm := ⟨[(true, [(.lit (.int .i64 (.lit 59))), (.lit (.str ⟨#[108, 114, 46, 119]⟩)), (.lit (.int .i64 (.lit 12))), (.lit (.int .u32 (.lit 47))), (.lit (.int .u32 (.lit 2))), (.lit (.int .u32 (.lit 2))), (.lit (.int .i64 (.lit 4)))]), (false, [(.int .u32)])], false, r59_0c0⟩
theorem sv59 (G : Nat → Option Nat) (D : Hp) : SmValid Tryz.prog (GofSm G sm59) (DofSm D sm59) 120 sm59 := smValid0 (T := T59) (fuel := 2000) mixed hF (VT59 _ _) rfl r59_0k0
def T60 : List (Nat × List Sm) := [(120, [sm1, sm2, sm3, sm4, sm5, sm6, sm7, sm8, sm9, sm10, sm11, sm12, sm13, sm14, sm15, sm16, sm17, sm18, sm19, sm20, sm21, sm22, sm23, sm24, sm25, sm26, sm27, sm28, sm29, sm30, sm31, sm32, sm33, sm34, sm35, sm36, sm37, sm38, sm39, sm40, sm41, sm42, sm43, sm44, sm45, sm46, sm47, sm48, sm49, sm50, sm51, sm52, sm53, sm54, sm55, sm56, sm57, sm58, sm59]), (151, [sm0])]
theorem VT60 (G : Nat → Option Nat) (D : Hp) : AllV Tryz.prog G D T60 := ⟨fun sm h => by
  simp only [List.mem_cons, List.not_mem_nil, or_false] at h
  rcases h with rfl | rfl | rfl | rfl | rfl | rfl | rfl | rfl | rfl | rfl | rfl | rfl | rfl | rfl | rfl | rfl | rfl | rfl | rfl | rfl | rfl | rfl | rfl | rfl | rfl | rfl | rfl | rfl | rfl | rfl | rfl | rfl | rfl | rfl | rfl | rfl | rfl | rfl | rfl | rfl | rfl | rfl | rfl | rfl | rfl | rfl | rfl | rfl | rfl | rfl | rfl | rfl | rfl | rfl | rfl | rfl | rfl | rfl | rfl
  · exact sv1 G D
  · exact sv2 G D
  · exact sv3 G D
  · exact sv4 G D
  · exact sv5 G D
  · exact sv6 G D
  · exact sv7 G D
  · exact sv8 G D
  · exact sv9 G D
  · exact sv10 G D
  · exact sv11 G D
  · exact sv12 G D
  · exact sv13 G D
  · exact sv14 G D
  · exact sv15 G D
  · exact sv16 G D
  · exact sv17 G D
  · exact sv18 G D
  · exact sv19 G D
  · exact sv20 G D
  · exact sv21 G D
  · exact sv22 G D
  · exact sv23 G D
  · exact sv24 G D
  · exact sv25 G D
  · exact sv26 G D
  · exact sv27 G D
  · exact sv28 G D
  · exact sv29 G D
  · exact sv30 G D
  · exact sv31 G D
  · exact sv32 G D
  · exact sv33 G D
  · exact sv34 G D
  · exact sv35 G D
  · exact sv36 G D
  · exact sv37 G D
  · exact sv38 G D
  · exact sv39 G D
  · exact sv40 G D
  · exact sv41 G D
  · exact sv42 G D
  · exact sv43 G D
  · exact sv44 G D
  · exact sv45 G D
  · exact sv46 G D
  · exact sv47 G D
  · exact sv48 G D
  · exact sv49 G D
  · exact sv50 G D
  · exact sv51 G D
  · exact sv52 G D
  · exact sv53 G D
  · exact sv54 G D
  · exact sv55 G D
  · exact sv56 G D
  · exact sv57 G D
  · exact sv58 G D
  · exact sv59 G D, ⟨fun sm h => by
  simp only [List.mem_cons, List.not_mem_nil, or_false] at h
  rcases h with rfl
  · exact sv0 G D, trivial⟩⟩
noncomputable def M60 : TT (SV × SP) := evFnD (cfgT F (fun _ => none) hpE T60) 2000 120 (patAs 0 [(true, [(.lit (.int .i64 (.lit 60))), (.lit (.str ⟨#[115, 99, 46, 119]⟩)), (.lit (.int .i64 (.lit 13))), (.lit (.int .u32 (.lit 47))), (.lit (.int .u32 (.lit 2))), (.lit (.int .u32 (.lit 3))), (.lit (.int .i64 (.lit 6)))]), (false, [(.int .u32)])]) ⟨hpE, []⟩
def spc60 : PC := []
def r60_0c0 : RT := (.node (.cmp .eql (.bin .and .u32 (.cv .u32 (.var 0)) (.lit 127)) (.lit 47)) (.node (.cmp .eql (.bin .and .u32 (.bin .shr .u32 (.cv .u32 (.var 0)) (.lit 12)) (.lit 7)) (.lit 2)) (.leaf (.bool (.cmp .eql (.bin .shr .u32 (.cv .u32 (.var 0)) (.lit 27)) (.lit 3))))
 (.leaf (.bool (.lit false))))
 (.leaf (.bool (.lit false))))
theorem r60_0k0 : r60_0c0.ok 0 M60 spc60 = true := by kernel_rfl
def sm60 : Sm := ⟨[(true, [(.lit (.int .i64 (.lit 60))), (.lit (.str ⟨#[115, 99, 46, 119]⟩)), (.lit (.int .i64 (.lit 13))), (.lit (.int .u32 (.lit 47))), (.lit (.int .u32 (.lit 2))), (.lit (.int .u32 (.lit 3))), (.lit (.int .i64 (.lit 6)))]), (false, [(.int .u32)])], false, r60_0c0⟩
theorem sv60 (G : Nat → Option Nat) (D : Hp) : SmValid Tryz.prog (GofSm G sm60) (DofSm D sm60) 120 sm60 := smValid0 (T := T60) (fuel := 2000) mixed hF (VT60 _ _) rfl r60_0k0
def T61 : List (Nat × List Sm) := [(120, [sm1, sm2, sm3, sm4, sm5, sm6, sm7, sm8, sm9, sm10, sm11, sm12, sm13, sm14, sm15, sm16, sm17, sm18, sm19, sm20, sm21, sm22, sm23, sm24, sm25, sm26, sm27, sm28, sm29, sm30, sm31, sm32, sm33, sm34, sm35, sm36, sm37, sm38, sm39, sm40, sm41, sm42, sm43, sm44, sm45, sm46, sm47, sm48, sm49, sm50, sm51, sm52, sm53, sm54, sm55, sm56, sm57, sm58, sm59, sm60]), (151, [sm0])]
theorem VT61 (G : Nat → Option Nat) (D : Hp) : AllV Tryz.prog G D T61 := ⟨fun sm h => by
  simp only [List.mem_cons, List.not_mem_nil, or_false] at h
  rcases h with rfl | rfl | rfl | rfl | rfl | rfl | rfl | rfl | rfl | rfl | rfl | rfl | rfl | rfl | rfl | rfl | rfl | rfl | rfl | rfl | rfl | rfl | rfl | rfl | rfl | rfl | rfl | rfl | rfl | rfl | rfl | rfl | rfl | rfl | rfl | rfl | rfl | rfl | rfl | rfl | rfl | rfl | rfl | rfl | rfl | rfl | rfl | rfl | rfl | rfl | rfl | rfl | rfl | rfl | rfl | rfl | rfl | rfl | rfl | rfl
  · exact sv1 G D
  · exact sv2 G D
  · exact sv3 G D
  · exact sv4 G D
  · exact sv5 G D
  · exact sv6 G D
  · exact sv7 G D
  · exact sv8 G D
  · exact sv9 G D
  · exact sv10 G D
  · exact sv11 G D
  · exact sv12 G D
  · exact sv13 G D
  · exact sv14 G D
  · exact sv15 G D
  · exact sv16 G D
  · exact sv17 G D
  · exact sv18 G D
  · exact sv19 G D
  · exact sv20 G D
  · exact sv21 G D
  · exact sv22 G D
  · exact sv23 G D
  · exact sv24 G D
  · exact sv25 G D
  · exact sv26 G D
  · exact sv27 G D
  · exact sv28 G D
  · exact sv29 G D
  · exact sv30 G D
  · exact sv31 G D
  · exact sv32 G D
  · exact sv33 G D
  · exact sv34 G D
  · exact sv35 G D
  · exact sv36 G D
  · exact sv37 G D
  · exact sv38 G D
  · exact sv39 G D
  · exact sv40 G D
  · exact sv41 G D
  · exact sv42 G D
  · exact sv43 G D
  · exact sv44 G D
  · exact sv45 G D
  · exact sv46 G D
  · exact sv47 G D
  · exact sv48 G D
  · exact sv49 G D
  · exact sv50 G D
  · exact sv51 G D
  · exact sv52 G D
  · exact sv53 G D
  · exact sv54 G D
  · exact sv55 G D
  · exact sv56 G D
  · exact sv57 G D
  · exact sv58 G D
  · exact sv59 G D
  · exact sv60 G D, ⟨fun sm h => by
  simp only [List.mem_cons, List.not_mem_nil, or_false] at h
  rcases h with rfl
  · exact sv0 G D, trivial⟩⟩
noncomputable def M61 : TT (SV × SP) := evFnD (cfgT F (fun _ => none) hpE T61) 2000 120 (patAs 0 [(true, [(.lit (.int .i64 (.lit 61))), (.lit (.str ⟨#[97, 109, 111, 115, 119, 97, 112, 46, 119]⟩)), (.lit (.int .i64 (.lit 13))), (.lit (.int .u32 (.lit 47))), (.lit (.int .u32 (.lit 2))), (.lit (.int .u32 (.lit 1))), (.lit (.int .i64 (.lit 6)))]), (false, [(.int .u32)])]) ⟨hpE, []⟩
def spc61 : PC := []
def r61_0c0 : RT := (.node (.cmp .eql (.bin .and .u32 (.cv .u32 (.var 0)) (.lit 127)) (.lit 47)) (.node (.cmp .eql (.bin .and .u32 (.bin .shr .u32 (.cv .u32 (.var 0)) (.lit 12)) (.lit 7)) (.lit 2)) (.leaf (.bool (.cmp .eql (.bin .shr .u32 (.cv .u32 (.var 0)) (.lit 27)) (.lit 1))))
 (.leaf (.bool (.lit false))))
 (.leaf (.bool (.lit false))))
theorem r61_0k0 : r61_0c0.ok 0 M61 spc61 = true := by kernel_rfl
def sm61 : Sm := ⟨[(true, [(.lit (.int .i64 (.lit 61))), (.lit (.str ⟨#[97, 109, 111, 115, 119, 97, 112, 46, 119]⟩)), (.lit (.int .i64 (.lit 13))), (.lit (.int .u32 (.lit 47))), (.lit (.int .u32 (.lit 2))), (.lit (.int .u32 (.lit 1))), (.lit (.int .i64 (.lit 6)))]), (false, [(.int .u32)])], false, r61_0c0⟩
theorem sv61 (G : Nat → Option Nat) (D : Hp) : SmValid Tryz.prog (GofSm G sm61) (DofSm D sm61) 120 sm61 := smValid0 (T := T61) (fuel := 2000) mixed hF (VT61 _ _) rfl r61_0k0
def T62 : List (Nat × List Sm) := [(120, [sm1, sm2, sm3, sm4, sm5, sm6, sm7, sm8, sm9, sm10, sm11, sm12, sm13, sm14, sm15, sm16, sm17, sm18, sm19, sm20, sm21, sm22, sm23, sm24, sm25, sm26, sm27, sm28, sm29, sm30, sm31, sm32, sm33, sm34, sm35, sm36, sm37, sm38, sm39, sm40, sm41, sm42, sm43, sm44, sm45, sm46, sm47, sm48, sm49, sm50, sm51, sm52, sm53, sm54, sm55, sm56, sm57, sm58, sm59, sm60, sm61]), (151, [sm0])]
theorem VT62 (G : Nat → Option Nat) (D : Hp) : AllV Tryz.prog G D T62 := ⟨fun sm h => by
  simp only [List.mem_cons, List.not_mem_nil, or_false] at h
  rcases h with rfl | rfl | rfl | rfl | rfl | rfl | rfl | rfl | rfl | rfl | rfl | rfl | rfl | rfl | rfl | rfl | rfl | rfl | rfl | rfl | rfl | rfl | rfl | rfl | rfl | rfl | rfl | rfl | rfl | rfl | rfl | rfl | rfl | rfl | rfl | rfl | rfl | rfl | rfl | rfl | rfl | rfl | rfl | rfl | rfl | rfl | rfl | rfl | rfl | rfl | rfl | rfl | rfl | rfl | rfl | rfl | rfl | rfl | rfl | rfl | rfl
  · exact sv1 G D
  · exact sv2 G D
  · exact sv3 G D
  · exact sv4 G D
  · exact sv5 G D
  · exact sv6 G D
  · exact sv7 G D
  · exact sv8 G D
  · exact sv9 G D
  · exact sv10 G D
  · exact sv11 G D
  · exact sv12 G D
  · exact sv13 G D
  · exact sv14 G D
  · exact sv15 G D
  · exact sv16 G D
  · exact sv17 G D
  · exact sv18 G D
  · exact sv19 G D
  · exact sv20 G D
  · exact sv21 G D
  · exact sv22 G D
  · exact sv23 G D
  · exact sv24 G D
  · exact sv25 G D
  · exact sv26 G D
  · exact sv27 G D
  · exact sv28 G D
  · exact sv29 G D
  · exact sv30 G D
  · exact sv31 G D
  · exact sv32 G D
  · exact sv33 G D
  · exact sv34 G D
  · exact sv35 G D
  · exact sv36 G D
  · exact sv37 G D
  · exact sv38 G D
  · exact sv39 G D
  · exact sv40 G D
  · exact sv41 G D
  · exact sv42 G D
  · exact sv43 G D
  · exact sv44 G D
  · exact sv45 G D
  · exact sv46 G D
  · exact sv47 G D
  · exact sv48 G D
  · exact sv49 G D
  · exact sv50 G D
  · exact sv51 G D
  · exact sv52 G D
  · exact sv53 G D
  · exact sv54 G D
  · exact sv55 G D
  · exact sv56 G D
  · exact sv57 G D
  · exact sv58 G D
  · exact sv59 G D
  · exact sv60 G D
  · exact sv61 G D, ⟨fun sm h => by
  simp only [List.mem_cons, List.not_mem_nil, or_false] at h
  rcases h with rfl
  · exact sv0 G D, trivial⟩⟩
noncomputable def M62 : TT (SV × SP) := evFnD (cfgT F (fun _ => none) hpE T62) 2000 120 (patAs 0 [(true, [(.lit (.int .i64 (.lit 62))), (.lit (.str ⟨#[97, 109, 111, 97, 100, 100, 46, 119]⟩)), (.lit (.int .i64 (.lit 13))), (.lit (.int .u32 (.lit 47))), (.lit (.int .u32 (.lit 2))), (.lit (.int .u32 (.lit 0))), (.lit (.int .i64 (.lit 6)))]), (false, [(.int .u32)])]) ⟨hpE, []⟩
def spc62 : PC := []
def r62_0c0 : RT := (.node (.cmp .eql (.bin .and .u32 (.cv .u32 (.var 0)) (.lit 127)) (.lit 47)) (.node (.cmp .eql (.bin .and .u32 (.bin .shr .u32 (.cv .u32 (.var 0)) (.lit 12)) (.lit 7)) (.lit 2)) (.leaf (.bool (.cmp .eql (.bin .shr .u32 (.cv .u32 (.var 0)) (.lit 27)) (.lit 0))))
 (.leaf (.bool (.lit false))))
 (.leaf (.bool (.lit false))))
theorem r62_0k0 : r62_0c0.ok 0 M62 spc62 = true := by kernel_rfl
def sm62 : Sm := ⟨[(true, [(.lit (.int .i64 (.lit 62))), (.lit (.str ⟨#[97, 109, 111, 97, 100, 100, 46, 119]⟩)), (.lit (.int .i64 (.lit 13))), (.lit (.int .u32 (.lit 47))), (.lit (.int .u32 (.lit 2))), (.lit (.int .u32 (.lit 0))), (.lit (.int .i64 (.lit 6)))]), (false, [(.int .u32)])], false, r62_0c0⟩
theorem sv62 (G : Nat → Option Nat) (D : Hp) : SmValid Tryz.prog (GofSm G sm62) (DofSm D sm62) 120 sm62 := smValid0 (T := T62) (fuel := 2000) mixed hF (VT62 _ _) rfl r62_0k0
def T63 : List (Nat × List Sm) := [(120, [sm1, sm2, sm3, sm4, sm5, sm6, sm7, sm8, sm9, sm10, sm11, sm12, sm13, sm14, sm15, sm16, sm17, sm18, sm19, sm20, sm21, sm22, sm23, sm24, sm25, sm26, sm27, sm28, sm29, sm30, sm31, sm32, sm33, sm34, sm35, sm36, sm37, sm38, sm39, sm40, sm41, sm42, sm43, sm44, sm45, sm46, sm47, sm48, sm49, sm50, sm51, sm52, sm53, sm54, sm55, sm56, sm57, sm58, sm59, sm60, sm61, sm62]), (151, [sm0])]
theorem VT63 (G : Nat → Option Nat) (D : Hp) : AllV Tryz.prog G D T63 := ⟨fun sm h => by
  simp only [List.mem_cons, List.not_mem_nil, or_false] at h
  rcases h with rfl | rfl | rfl | rfl | rfl | rfl | rfl | rfl | rfl | rfl | rfl | rfl | rfl | rfl | rfl | rfl | rfl | rfl | rfl | rfl | rfl | rfl | rfl | rfl | rfl | rfl | rfl | rfl | rfl | rfl | rfl | rfl | rfl | rfl | rfl | rfl | rfl | rfl | rfl | rfl | rfl | rfl | rfl | rfl | rfl | rfl | rfl | rfl | rfl | rfl | rfl | rfl | rfl | rfl | rfl | rfl | rfl | rfl | rfl | rfl | rfl | rfl
  · exact sv1 G D
  · exact sv2 G D
  · exact sv3 G D
  · exact sv4 G D
  · exact sv5 G D
  · exact sv6 G D
  · exact sv7 G D
  · exact sv8 G D
  · exact sv9 G D
  · exact sv10 G D
  · exact sv11 G D
  · exact sv12 G D
  · exact sv13 G D
  · exact sv14 G D
  · exact sv15 G D
  · exact sv16 G D
  · exact sv17 G D
  · exact sv18 G D
  · exact sv19 G D
  · exact sv20 G D
  · exact sv21 G D
  · exact sv22 G D
  · exact sv23 G D
  · exact sv24 G D
  · exact sv25 G D
  · exact sv26 G D
  · exact sv27 G D
  · exact sv28 G D
  · exact sv29 G D
  · exact sv30 G D
  · exact sv31 G D
  · exact sv32 G D
  · exact sv33 G D
  · exact sv34 G D
  · exact sv35 G D
  · exact sv36 G D
  · exact sv37 G D
  · exact sv38 G D
  · exact sv39 G D
  · exact sv40 G D
  · exact sv41 G D
  · exact sv42 G D
  · exact sv43 G D
  · exact sv44 G D
  · exact sv45 G D
  · exact sv46 G D
  · exact sv47 G D
  · exact sv48 G D
  · exact sv49 G D
  · exact sv50 G D
  · exact sv51 G D
  · exact sv52 G D
  · exact sv53 G D
  · exact sv54 G D
  · exact sv55 G D
  · exact sv56 G D
  · exact sv57 G D
  · exact sv58 G D
  · exact sv59 G D
  · exact sv60 G D
  · exact sv61 G D
  · exact sv62 G D, ⟨fun sm h => by
  simp only [List.mem_cons, List.not_mem_nil, or_false] at h
  rcases h with rfl
  · exact sv0 G D, trivial⟩⟩
noncomputable def M63 : TT (SV × SP) := evFnD (cfgT F (fun _ => none) hpE T63) 2000 120 (patAs 0 [(true, [(.lit (.int .i64 (.lit 63))), (.lit (.str ⟨#[97, 109, 111, 120, 111, 114, 46, 119]⟩)), (.lit (.int .i64 (.lit 13))), (.lit (.int .u32 (.lit 47))), (.lit (.int .u32 (.lit 2))), (.lit (.int .u32 (.lit 4))), (.lit (.int .i64 (.lit 6)))]), (false, [(.int .u32)])]) ⟨hpE, []⟩
def spc63 : PC := []
def r63_0c0 : RT := (.node (.cmp .eql (.bin .and .u32 (.cv .u32 (.var 0)) (.lit 127)) (.lit 47)) (.node (.cmp .eql (.bin .and .u32 (.bin .shr .u32 (.cv .u32 (.var 0)) (.lit 12)) (.lit 7)) (.lit 2)) (.leaf (.bool (.cmp .eql (.bin .shr .u32 (.cv .u32 (.var 0)) (.lit 27)) (.lit 4))))
 (.leaf (.bool (.lit false))))
 (.leaf (.bool (.lit false))))
theorem r63_0k0 : r63_0c0.ok 0 M63 spc63 = true := by kernel_rfl
def sm63 : Sm := ⟨[(true, [(.lit (.int .i64 (.lit 63))), (.lit (.str ⟨#[97, 109, 111, 120, 111, 114, 46, 119]⟩)), (.lit (.int .i64 (.lit 13))), (.lit (.int .u32 (.lit 47))), (.lit (.int .u32 (.lit 2))), (.lit (.int .u32 (.lit 4))), (.lit (.int .i64 (.lit 6)))]), (false, [(.int .u32)])], false, r63_0c0⟩
theorem sv63 (G : Nat → Option Nat) (D : Hp) : SmValid Tryz.prog (GofSm G sm63) (DofSm D sm63) 120 sm63 := smValid0 (T := T63) (fuel := 2000) mixed hF (VT63 _ _) rfl r63_0k0
def T64 : List (Nat × List Sm) := [(120, [sm1, sm2, sm3, sm4, sm5, sm6, sm7, sm8, sm9, sm10, sm11, sm12, sm13, sm14, sm15, sm16, sm17, sm18, sm19, sm20, sm21, sm22, sm23, sm24, sm25, sm26, sm27, sm28, sm29, sm30, sm31, sm32, sm33, sm34, sm35, sm36, sm37, sm38, sm39, sm40, sm41, sm42, sm43, sm44, sm45, sm46, sm47, sm48, sm49, sm50, sm51, sm52, sm53, sm54, sm55, sm56, sm57, sm58, sm59, sm60, sm61, sm62, sm63]), (151, [sm0])]
theorem VT64 (G : Nat → Option Nat) (D : Hp) : AllV Tryz.prog G D T64 := ⟨fun sm h => by
  simp only [List.mem_cons, List.not_mem_nil, or_false] at h
  rcases h with rfl | rfl | rfl | rfl | rfl | rfl | rfl | rfl | rfl | rfl | rfl | rfl | rfl | rfl | rfl | rfl | rfl | rfl | rfl | rfl | rfl | rfl | rfl | rfl | rfl | rfl | rfl | rfl | rfl | rfl | rfl | rfl | rfl | rfl | rfl | rfl | rfl | rfl | rfl | rfl | rfl | rfl | rfl | rfl | rfl | rfl | rfl | rfl | rfl | rfl | rfl | rfl | rfl | rfl | rfl | rfl | rfl | rfl | rfl | rfl | rfl | rfl | rfl
  · exact sv1 G D
  · exact sv2 G D
  · exact sv3 G D
  · exact sv4 G D
  · exact sv5 G D
  · exact sv6 G D
  · exact sv7 G D
  · exact sv8 G D
  · exact sv9 G D
  · exact sv10 G D
  · exact sv11 G D
  · exact sv12 G D
  · exact sv13 G D
  · exact sv14 G D
  · exact sv15 G D
  · exact sv16 G D
  · exact sv17 G D
  · exact sv18 G D
  · exact sv19 G D
  · exact sv20 G D
  · exact sv21 G D
  · exact sv22 G D
  · exact sv23 G D
  · exact sv24 G D
  · exact sv25 G D
  · exact sv26 G D
  · exact sv27 G D
  · exact sv28 G D
  · exact sv29 G D
  · exact sv30 G D
  · exact sv31 G D
  · exact sv32 G D
  · exact sv33 G D
  · exact sv34 G D
  · exact sv35 G D
  · exact sv36 G D
  · exact sv37 G D
  · exact sv38 G D
  · exact sv39 G D
  · exact sv40 G D
  · exact sv41 G D
  · exact sv42 G D
  · exact sv43 G D
  · exact sv44 G D
  · exact sv45 G D
  · exact sv46 G D
  · exact sv47 G D
  · exact sv48 G D
  · exact sv49 G D
  · exact sv50 G D
  · exact sv51 G D
  · exact sv52 G D
  · exact sv53 G D
  · exact sv54 G D
  · exact sv55 G D
  · exact sv56 G D
  · exact sv57 G D
  · exact sv58 G D
  · exact sv59 G D
  · exact sv60 G D
  · exact sv61 G D
  · exact sv62 G D
  · exact sv63 G D, ⟨fun sm h => by
  simp only [List.mem_cons, List.not_mem_nil, or_false] at h
  rcases h with rfl
  · exact sv0 G D, trivial⟩⟩
noncomputable def M64 : TT (SV × SP) := evFnD (cfgT F (fun _ => none) hpE T64) 2000 120 (patAs 0 [(true, [(.lit (.int .i64 (.lit 64))), (.lit (.str ⟨#[97, 109, 111, 97, 110, 100, 46, 119]⟩)), (.lit (.int .i64 (.lit 13))), (.lit (.int .u32 (.lit 47))), (.lit (.int .u32 (.lit 2))), (.lit (.int .u32 (.lit 12))), (.lit (.int .i64 (.lit 6)))]), (false, [(.int .u32)])]) ⟨hpE, []⟩
def spc64 : PC := []
def r64_0c0 : RT := (.node (.cmp .eql (.bin .and .u32 (.cv .u32 (.var 0)) (.lit 127)) (.lit 47)) (.node (.cmp .eql (.bin .and .u32 (.bin .shr .u32 (.cv .u32 (.var 0)) (.lit 12)) (.lit 7)) (.lit 2)) (.leaf (.bool (.cmp .eql (.bin .shr .u32 (.cv .u32 (.var 0)) (.lit 27)) (.lit 12))))
 (.leaf (.bool (.lit false))))
 (.leaf (.bool (.lit false))))
theorem r64_0k0 : r64_0c0.ok 0 M64 spc64 = true := by kernel_rfl
def sm64 : Sm := ⟨[(true, [(.lit (.int .i64 (.lit 64))), (.lit (.str ⟨#[97, 109, 111, 97, 110, 100, 46, 119]⟩)), (.lit (.int .i64 (.lit 13))), (.lit (.int .u32 (.lit 47))), (.lit (.int .u32 (.lit 2))), (.lit (.int .u32 (.lit 12))), (.lit (.int .i64 (.lit 6)))]), (false, [(.int .u32)])], false, r64_0c0⟩
theorem sv64 (G : Nat → Option Nat) (D : Hp) : SmValid Tryz.prog (GofSm G sm64) (DofSm D sm64) 120 sm64 := smValid0 (T := T64) (fuel := 2000) mixed hF (VT64 _ _) rfl r64_0k0
def T65 : List (Nat × List Sm) := [(120, [sm1, sm2, sm3, sm4, sm5, sm6, sm7, sm8, sm9, sm10, sm11, sm12, sm13, sm14, sm15, sm16, sm17, sm18, sm19, sm20, sm21, sm22, sm23, sm24, sm25, sm26, sm27, sm28, sm29, sm30, sm31, sm32, sm33, sm34, sm35, sm36, sm37, sm38, sm39, sm40, sm41, sm42, sm43, sm44, sm45, sm46, sm47, sm48, sm49, sm50, sm51, sm52, sm53, sm54, sm55, sm56, sm57, sm58, sm59, sm60, sm61, sm62, sm63, sm64]), (151, [sm0])]
theorem VT65 (G : Nat → Option Nat) (D : Hp) : AllV Tryz.prog G D T65 := ⟨fun sm h => by
  simp only [List.mem_cons, List.not_mem_nil, or_false] at h
  rcases h with rfl | rfl | rfl | rfl | rfl | rfl | rfl | rfl | rfl | rfl | rfl | rfl | rfl | rfl | rfl | rfl | rfl | rfl | rfl | rfl | rfl | rfl | rfl | rfl | rfl | rfl | rfl | rfl | rfl | rfl | rfl | rfl | rfl | rfl | rfl | rfl | rfl | rfl | rfl | rfl | rfl | rfl | rfl | rfl | rfl | rfl | rfl | rfl | rfl | rfl | rfl | rfl | rfl | rfl | rfl | rfl | rfl | rfl | rfl | rfl | rfl | rfl | rfl | rfl
  · exact sv1 G D
  · exact sv2 G D
  · exact sv3 G D
  · exact sv4 G D
  · exact sv5 G D
  · exact sv6 G D
  · exact sv7 G D
  · exact sv8 G D
  · exact sv9 G D
  · exact sv10 G D
  · exact sv11 G D
  · exact sv12 G D
  · exact sv13 G D
  · exact sv14 G D
  · exact sv15 G D
  · exact sv16 G D
  · exact sv17 G D
  · exact sv18 G D
  · exact sv19 G D
  · exact sv20 G D
  · exact sv21 G D
  · exact sv22 G D
  · exact sv23 G D
  · exact sv24 G D
  · exact sv25 G D
  · exact sv26 G D
  · exact sv27 G D
  · exact sv28 G D
  · exact sv29 G D
  · exact sv30 G D
  · exact sv31 G D
  · exact sv32 G D
  · exact sv33 G D
  · exact sv34 G D
  · exact sv35 G D
  · exact sv36 G D
  · exact sv37 G D
  · exact sv38 G D
  · exact sv39 G D
  · exact sv40 G D
  · exact sv41 G D
  · exact sv42 G D
  · exact sv43 G D
  · exact sv44 G D
  · exact sv45 G D
  · exact sv46 G D
  · exact sv47 G D
  · exact sv48 G D
  · exact sv49 G D
  · exact sv50 G D
  · exact sv51 G D
  · exact sv52 G D
  · exact sv53 G D
  · exact sv54 G D
  · exact sv55 G D
  · exact sv56 G D
  · exact sv57 G D
  · exact sv58 G D
  · exact sv59 G D
  · exact sv60 G D
  · exact sv61 G D
  · exact sv62 G D
  · exact sv63 G D
  · exact sv64 G D, ⟨fun sm h => by
  simp only [List.mem_cons, List.not_mem_nil, or_false] at h
  rcases h with rfl
  · exact sv0 G D, trivial⟩⟩
noncomputable def M65 : TT (SV × SP) := evFnD (cfgT F (fun _ => none) hpE T65) 2000 120 (patAs 0 [(true, [(.lit (.int .i64 (.lit 65))), (.lit (.str ⟨#[97, 109, 111, 111, 114, 46, 119]⟩)), (.lit (.int .i64 (.lit 13))), (.lit (.int .u32 (.lit 47))), (.lit (.int .u32 (.lit 2))), (.lit (.int .u32 (.lit 8))), (.lit (.int .i64 (.lit 6)))]), (false, [(.int .u32)])]) ⟨hpE, []⟩
def spc65 : PC := []
def r65_0c0 : RT := (.node (.cmp .eql (.bin .and .u32 (.cv .u32 (.var 0)) (.lit 127)) (.lit 47)) (.node (.cmp .eql (.bin .and .u32 (.bin .shr .u32 (.cv .u32 (.var 0)) (.lit 12)) (.lit 7)) (.lit 2)) (.leaf (.bool (.cmp .eql (.bin .shr .u32 (.cv .u32 (.var 0)) (.lit 27)) (.lit 8))))
 (.leaf (.bool (.lit false))))
 (.leaf (.bool (.lit false))))
theorem r65_0k0 : r65_0c0.ok 0 M65 spc65 = true := by kernel_rfl
def sm65 : Sm := ⟨[(true, [(.lit (.int .i64 (.lit 65))), (.lit (.str ⟨#[97, 109, 111, 111, 114, 46, 119]⟩)), (.lit (.int .i64 (.lit 13))), (.lit (.int .u32 (.lit 47))), (.lit (.int .u32 (.lit 2))), (.lit (.int .u32 (.lit 8))), (.lit (.int .i64 (.lit 6)))]), (false, [(.int .u32)])], false, r65_0c0⟩
theorem sv65 (G : Nat → Option Nat) (D : Hp) : SmValid Tryz.prog (GofSm G sm65) (DofSm D sm65) 120 sm65 := smValid0 (T := T65) (fuel := 2000) mixed hF (VT65 _ _) rfl r65_0k0
def T66 : List (Nat × List Sm) := [(120, [sm1, sm2, sm3, sm4, sm5, sm6, sm7, sm8, sm9, sm10, sm11, sm12, sm13, sm14, sm15, sm16, sm17, sm18, sm19, sm20, sm21, sm22, sm23, sm24, sm25, sm26, sm27, sm28, sm29, sm30, sm31, sm32, sm33, sm34, sm35, sm36, sm37, sm38, sm39, sm40, sm41, sm42, sm43, sm44, sm45, sm46, sm47, sm48, sm49, sm50, sm51, sm52, sm53, sm54, sm55, sm56, sm57, sm58, sm59, sm60, sm61, sm62, sm63, sm64, sm65]), (151, [sm0])]
theorem VT66 (G : Nat → Option Nat) (D : Hp) : AllV Tryz.prog G D T66 := ⟨fun sm h => by
  simp only [List.mem_cons, List.not_mem_nil, or_false] at h
  rcases h with rfl | rfl | rfl | rfl | rfl | rfl | rfl | rfl | rfl | rfl | rfl | rfl | rfl | rfl | rfl | rfl | rfl | rfl | rfl | rfl | rfl | rfl | rfl | rfl | rfl | rfl | rfl | rfl | rfl | rfl | rfl | rfl | rfl | rfl | rfl | rfl | rfl | rfl | rfl | rfl | rfl | rfl | rfl | rfl | rfl | rfl | rfl | rfl | rfl | rfl | rfl | rfl | rfl | rfl | rfl | rfl | rfl | rfl | rfl | rfl | rfl | rfl | rfl | rfl | rfl
  · exact sv1 G D
  · exact sv2 G D
  · exact sv3 G D
  · exact sv4 G D
  · exact sv5 G D
  · exact sv6 G D
  · exact sv7 G D
  · exact sv8 G D
  · exact sv9 G D
  · exact sv10 G D
  · exact sv11 G D
  · exact sv12 G D
  · exact sv13 G D
  · exact sv14 G D
  · exact sv15 G D
  · exact sv16 G D
  · exact sv17 G D
  · exact sv18 G D
  · exact sv19 G D
  · exact sv20 G D
  · exact sv21 G D
  · exact sv22 G D
  · exact sv23 G D
  · exact sv24 G D
  · exact sv25 G D
  · exact sv26 G D
  · exact sv27 G D
  · exact sv28 G D
  · exact sv29 G D
  · exact sv30 G D
  · exact sv31 G D
  · exact sv32 G D
  · exact sv33 G D
  · exact sv34 G D
  · exact sv35 G D
  · exact sv36 G D
  · exact sv37 G D
  · exact sv38 G D
  · exact sv39 G D
  · exact sv40 G D
  · exact sv41 G D
  · exact sv42 G D
  · exact sv43 G D
  · exact sv44 G D
  · exact sv45 G D
  · exact sv46 G D
  · exact sv47 G D
  · exact sv48 G D
  · exact sv49 G D
  · exact sv50 G D
  · exact sv51 G D
  · exact sv52 G D
  · exact sv53 G D
  · exact sv54 G D
  · exact sv55 G D
  · exact sv56 G D
  · exact sv57 G D
  · exact sv58 G D
  · exact sv59 G D
  · exact sv60 G D
  · exact sv61 G D
  · exact sv62 G D
  · exact sv63 G D
  · exact sv64 G D
  · exact sv65 G D, ⟨fun sm h => by
  simp only [List.mem_cons, List.not_mem_nil, or_false] at h
  rcases h with rfl
  · exact sv0 G D, trivial⟩⟩
noncomputable def M66 : TT (SV × SP) := evFnD (cfgT F (fun _ => none) hpE T66) 2000 120 (patAs 0 [(true, [(.lit (.int .i64 (.lit 66))), (.lit (.str ⟨#[97, 109, 111, 109, 105, 110, 46, 119]⟩)), (.lit (.int .i64 (.lit 13))), (.lit (.int .u32 (.lit 47))), (.lit (.int .u32 (.lit 2))), (.lit (.int .u32 (.lit 16))), (.lit (.int .i64 (.lit 6)))]), (false, [(.int .u32)])]) ⟨hpE, []⟩
def spc66 : PC := []
def r66_0c0 : RT := (.node (.cmp .eql (.bin .and .u32 (.cv .u32 (.var 0)) (.lit 127)) (.lit 47)) (.node (.cmp .eql (.bin .and .u32 (.bin .shr .u32 (.cv .u32 (.var 0)) (.lit 12)) (.lit 7)) (.lit 2)) (.leaf (.bool (.cmp .eql (.bin .shr .u32 (.cv .u32 (.var 0)) (.lit 27)) (.lit 16))))
 (.leaf (.bool (.lit false))))
 (.leaf (.bool (.lit false))))
theorem r66_0k0 : r66_0c0.ok 0 M66 spc66 = true := by kernel_rfl
def sm66 : Sm := ⟨[(true, [(.lit (.int .i64 (.lit 66))), (.lit (.str ⟨#[97, 109, 111, 109, 105, 110, 46, 119]⟩)), (.lit (.int .i64 (.lit 13))), (.lit (.int .u32 (.lit 47))), (.lit (.int .u32 (.lit 2))), (.lit (.int .u32 (.lit 16))), (.lit (.int .i64 (.lit 6)))]), (false, [(.int .u32)])], false, r66_0c0⟩
theorem sv66 (G : Nat → Option Nat) (D : Hp) : SmValid Tryz.prog (GofSm G sm66) (DofSm D sm66) 120 sm66 := smValid0 (T := T66) (fuel := 2000) mixed hF (VT66 _ _) rfl r66_0k0
def T67 : List (Nat × List Sm) := [(120, [sm1, sm2, sm3, sm4, sm5, sm6, sm7, sm8, sm9, sm10, sm11, sm12, sm13, sm14, sm15, sm16, sm17, sm18, sm19, sm20, sm21, sm22, sm23, sm24, sm25, sm26, sm27, sm28, sm29, sm30, sm31, sm32, sm33, sm34, sm35, sm36, sm37, sm38, sm39, sm40, sm41, sm42, sm43, sm44, sm45, sm46, sm47, sm48, sm49, sm50, sm51, sm52, sm53, sm54, sm55, sm56, sm57, sm58, sm59, sm60, sm61, sm62, sm63, sm64, sm65, sm66]), (151, [sm0])]
theorem VT67 (G : Nat → Option Nat) (D : Hp) : AllV Tryz.prog G D T67 := ⟨fun sm h => by
  simp only [List.mem_cons, List.not_mem_nil, or_false] at h
  rcases h with rfl | rfl | rfl | rfl | rfl | rfl | rfl | rfl | rfl | rfl | rfl | rfl | rfl | rfl | rfl | rfl | rfl | rfl | rfl | rfl | rfl | rfl | rfl | rfl | rfl | rfl | rfl | rfl | rfl | rfl | rfl | rfl | rfl | rfl | rfl | rfl | rfl | rfl | rfl | rfl | rfl | rfl | rfl | rfl | rfl | rfl | rfl | rfl | rfl | rfl | rfl | rfl | rfl | rfl | rfl | rfl | rfl | rfl | rfl | rfl | rfl | rfl | rfl | rfl | rfl | rfl
  · exact sv1 G D
  · exact sv2 G D
  · exact sv3 G D
  · exact sv4 G D
  · exact sv5 G D
  · exact sv6 G D
  · exact sv7 G D
  · exact sv8 G D
  · exact sv9 G D
  · exact sv10 G D
  · exact sv11 G D
  · exact sv12 G D
  · exact sv13 G D
  · exact sv14 G D
  · exact sv15 G D
  · exact sv16 G D
  · exact sv17 G D
  · exact sv18 G D
  · exact sv19 G D
  · exact sv20 G D
  · exact sv21 G D
  · exact sv22 G D
  · exact sv23 G D
  · exact sv24 G D
  · exact sv25 G D
  · exact sv26 G D
  · exact sv27 G D
  · exact sv28 G D
  · exact sv29 G D
  · exact sv30 G D
  · exact sv31 G D
  · exact sv32 G D
  · exact sv33 G D
  · exact sv34 G D
  · exact sv35 G D
  · exact sv36 G D
  · exact sv37 G D
  · exact sv38 G D
  · exact sv39 G D
  · exact sv40 G D
  · exact sv41 G D
  · exact sv42 G D
  · exact sv43 G D
  · exact sv44 G D
  · exact sv45 G D
  · exact sv46 G D
  · exact sv47 G D
  · exact sv48 G D
  · exact sv49 G D
  · exact sv50 G D
  · exact sv51 G D
  · exact sv52 G D
  · exact sv53 G D
  · exact sv54 G D
  · exact sv55 G D
  · exact sv56 G D
  · exact sv57 G D
  · exact sv58 G D
  · exact sv59 G D
  · exact sv60 G D
  · exact sv61 G D
  · exact sv62 G D
  · exact sv63 G D
  · exact sv64 G D
  · exact sv65 G D
  · exact sv66 G D, ⟨fun sm h => by
  simp only [List.mem_cons, List.not_mem_nil, or_false] at h
  rcases h with rfl
  · exact sv0 G D, trivial⟩⟩
noncomputable def M67 : TT (SV × SP) := evFnD (cfgT F (fun _ => none) hpE T67) 2000 120 (patAs 0 [(true, [(.lit (.int .i64 (.lit 67))), (.lit (.str ⟨#[97, 109, 111, 109, 97, 120, 46, 119]⟩)), (.lit (.int .i64 (.lit 13))), (.lit (.int .u32 (.lit 47))), (.lit (.int .u32 (.lit 2))), (.lit (.int .u32 (.lit 20))), (.lit (.int .i64 (.lit 6)))]), (false, [(.int .u32)])]) ⟨hpE, []⟩
def spc67 : PC := []
def r67_0c0 : RT := (.node (.cmp .eql (.bin .and .u32 (.cv .u32 (.var 0)) (.lit 127)) (.lit 47)) (.node (.cmp .eql (.bin .and .u32 (.bin .shr .u32 (.cv .u32 (.var 0)) (.lit 12)) (.lit 7)) (.lit 2)) (.leaf (.bool (.cmp .eql (.bin .shr .u32 (.cv .u32 (.var 0)) (.lit 27)) (.lit 20))))
 (.leaf (.bool (.lit false))))
 (.leaf (.bool (.lit false))))
theorem r67_0k0 : r67_0c0.ok 0 M67 spc67 = true := by kernel_rfl
def sm67 : Sm := ⟨[(true, [(.lit (.int .i64 (.lit 67))), (.lit (.str ⟨#[97, 109, 111, 109, 97, 120, 46, 119]⟩)), (.lit (.int .i64 (.lit 13))), (.lit (.int .u32 (.lit 47))), (.lit (.int .u32 (.lit 2))), (.lit (.int .u32 (.lit 20))), (.lit (.int .i64 (.lit 6)))]), (false, [(.int .u32)])], false, r67_0c0⟩
theorem sv67 (G : Nat → Option Nat) (D : Hp) : SmValid Tryz.prog (GofSm G sm67) (DofSm D sm67) 120 sm67 := smValid0 (T := T67) (fuel := 2000) mixed hF (VT67 _ _) rfl r67_0k0
def T68 : List (Nat × List Sm) := [(120, [sm1, sm2, sm3, sm4, sm5, sm6, sm7, sm8, sm9, sm10, sm11, sm12, sm13, sm14, sm15, sm16, sm17, sm18, sm19, sm20, sm21, sm22, sm23, sm24, sm25, sm26, sm27, sm28, sm29, sm30, sm31, sm32, sm33, sm34, sm35, sm36, sm37, sm38, sm39, sm40, sm41, sm42, sm43, sm44, sm45, sm46, sm47, sm48, sm49, sm50, sm51, sm52, sm53, sm54, sm55, sm56, sm57, sm58, sm59, sm60, sm61, sm62, sm63, sm64, sm65, sm66, sm67]), (151, [sm0])]
theorem VT68 (G : Nat → Option Nat) (D : Hp) : AllV Tryz.prog G D T68 := ⟨fun sm h => by
  simp only [List.mem_cons, List.not_mem_nil, or_false] at h
  rcases h with rfl | rfl | rfl | rfl | rfl | rfl | rfl | rfl | rfl | rfl | rfl | rfl | rfl | rfl | rfl | rfl | rfl | rfl | rfl | rfl | rfl | rfl | rfl | rfl | rfl | rfl | rfl | rfl | rfl | rfl | rfl | rfl | rfl | rfl | rfl | rfl | rfl | rfl | rfl | rfl | rfl | rfl | rfl | rfl | rfl | rfl | rfl | rfl | rfl | rfl | rfl | rfl | rfl | rfl | rfl | rfl | rfl | rfl | rfl | rfl | rfl | rfl | rfl | rfl | rfl | rfl | rfl
  · exact sv1 G D
  · exact sv2 G D
  · exact sv3 G D
  · exact sv4 G D
  · exact sv5 G D
  · exact sv6 G D
  · exact sv7 G D
  · exact sv8 G D
  · exact sv9 G D
  · exact sv10 G D
  · exact sv11 G D
  · exact sv12 G D
  · exact sv13 G D
  · exact sv14 G D
  · exact sv15 G D
  · exact sv16 G D
  · exact sv17 G D
  · exact sv18 G D
  · exact sv19 G D
  · exact sv20 G D
  · exact sv21 G D
  · exact sv22 G D
  · exact sv23 G D
  · exact sv24 G D
  · exact sv25 G D
  · exact sv26 G D
  · exact sv27 G D
  · exact sv28 G D
  · exact sv29 G D
  · exact sv30 G D
  · exact sv31 G D
  · exact sv32 G D
  · exact sv33 G D
  · exact sv34 G D
  · exact sv35 G D
  · exact sv36 G D
  · exact sv37 G D
  · exact sv38 G D
  · exact sv39 G D
  · exact sv40 G D
  · exact sv41 G D
  · exact sv42 G D
  · exact sv43 G D
  · exact sv44 G D
  · exact sv45 G D
  · exact sv46 G D
  · exact sv47 G D
  · exact sv48 G D
  · exact sv49 G D
  · exact sv50 G D
  · exact sv51 G D
  · exact sv52 G D
  · exact sv53 G D
  · exact sv54 G D
  · exact sv55 G D
  · exact sv56 G D
  · exact sv57 G D
  · exact sv58 G D
  · exact sv59 G D
  · exact sv60 G D
  · exact sv61 G D
  · exact sv62 G D
  · exact sv63 G D
  · exact sv64 G D
  · exact sv65 G D
  · exact sv66 G D
  · exact sv67 G D, ⟨fun sm h => by
  simp only [List.mem_cons, List.not_mem_nil, or_false] at h
  rcases h with rfl
  · exact sv0 G D, trivial⟩⟩
noncomputable def M68 : TT (SV × SP) := evFnD (cfgT F (fun _ => none) hpE T68) 2000 120 (patAs 0 [(true, [(.lit (.int .i64 (.lit 68))), (.lit (.str ⟨#[97, 109, 111, 109, 105, 110, 117, 46, 119]⟩)), (.lit (.int .i64 (.lit 13))), (.lit (.int .u32 (.lit 47))), (.lit (.int .u32 (.lit 2))), (.lit (.int .u32 (.lit 24))), (.lit (.int .i64 (.lit 6)))]), (false, [(.int .u32)])]) ⟨hpE, []⟩
def spc68 : PC := []
def r68_0c0 : RT := (.node (.cmp .eql (.bin .and .u32 (.cv .u32 (.var 0)) (.lit 127)) (.lit 47)) (.node (.cmp .eql (.bin .and .u32 (.bin .shr .u32 (.cv .u32 (.var 0)) (.lit 12)) (.lit 7)) (.lit 2)) (.leaf (.bool (.cmp .eql (.bin .shr .u32 (.cv .u32 (.var 0)) (.lit 27)) (.lit 24))))
 (.leaf (.bool (.lit false))))
 (.leaf (.bool (.lit false))))
theorem r68_0k0 : r68_0c0.ok 0 M68 spc68 = true := by kernel_rfl
def sm68 : Sm := ⟨[(true, [(.lit (.int .i64 (.lit 68))), (.lit (.str ⟨#[97, 109, 111, 109, 105, 110, 117, 46, 119]⟩)), (.lit (.int .i64 (.lit 13))), (.lit (.int .u32 (.lit 47))), (.lit (.int .u32 (.lit 2))), (.lit (.int .u32 (.lit 24))), (.lit (.int .i64 (.lit 6)))]), (false, [(.int .u32)])], false, r68_0c0⟩
theorem sv68 (G : Nat → Option Nat) (D : Hp) : SmValid Tryz.prog (GofSm G sm68) (DofSm D sm68) 120 sm68 := smValid0 (T := T68) (fuel := 2000) mixed hF (VT68 _ _) rfl r68_0k0
def T69 : List (Nat × List Sm) := [(120, [sm1, sm2, sm3, sm4, sm5, sm6, sm7, sm8, sm9, sm10, sm11, sm12, sm13, sm14, sm15, sm16, sm17, sm18, sm19, sm20, sm21, sm22, sm23, sm24, sm25, sm26, sm27, sm28, sm29, sm30, sm31, sm32, sm33, sm34, sm35, sm36, sm37, sm38, sm39, sm40, sm41, sm42, sm43, sm44, sm45, sm46, sm47, sm48, sm49, sm50, sm51, sm52, sm53, sm54, sm55, sm56, sm57, sm58, sm59, sm60, sm61, sm62, sm63, sm64, sm65, sm66, sm67, sm68]), (151, [sm0])]
theorem VT69 (G : Nat → Option Nat) (D : Hp) : AllV Tryz.prog G D T69 := ⟨fun sm h => by
  simp only [List.mem_cons, List.not_mem_nil, or_false] at h
  rcases h with rfl | rfl | rfl | rfl | rfl | rfl | rfl | rfl | rfl | rfl | rfl | rfl | rfl | rfl | rfl | rfl | rfl | rfl | rfl | rfl | rfl | rfl | rfl | rfl | rfl | rfl | rfl | rfl | rfl | rfl | rfl | rfl | rfl | rfl | rfl | rfl | rfl | rfl | rfl | rfl | rfl | rfl | rfl | rfl | rfl | rfl | rfl | rfl | rfl | rfl | rfl | rfl | rfl | rfl | rfl | rfl | rfl | rfl | rfl | rfl | rfl | rfl | rfl | rfl | rfl | rfl | rfl | rfl
  · exact sv1 G D
  · exact sv2 G D
  · exact sv3 G D
  · exact sv4 G D
  · exact sv5 G D
  · exact sv6 G D
  · exact sv7 G D
  · exact sv8 G D
  · exact sv9 G D
  · exact sv10 G D
  · exact sv11 G D
  · exact sv12 G D
  · exact sv13 G D
  · exact sv14 G D
  · exact sv15 G D
  · exact sv16 G D
  · exact sv17 G D
  · exact sv18 G D
  · exact sv19 G D
  · exact sv20 G D
  · exact sv21 G D
  · exact sv22 G D
  · exact sv23 G D
  · exact sv24 G D
  · exact sv25 G D
  · exact sv26 G D
  · exact sv27 G D
  · exact sv28 G D
  · exact sv29 G D
  · exact sv30 G D
  · exact sv31 G D
  · exact sv32 G D
  · exact sv33 G D
  · exact sv34 G D
  · exact sv35 G D
  · exact sv36 G D
  · exact sv37 G D
  · exact sv38 G D
  · exact sv39 G D
  · exact sv40 G D
  · exact sv41 G D
  · exact sv42 G D
  · exact sv43 G D
  · exact sv44 G D
  · exact sv45 G D
  · exact sv46 G D
  · exact sv47 G D
  · exact sv48 G D
  · exact sv49 G D
  · exact sv50 G D
  · exact sv51 G D
  · exact sv52 G D
  · exact sv53 G D
  · exact sv54 G D
  · exact sv55 G D
  · exact sv56 G D
  · exact sv57 G D
  · exact sv58 G D
  · exact sv59 G D
  · exact sv60 G D
  · exact sv61 G D
  · exact sv62 G D
  · exact sv63 G D
  · exact sv64 G D
  · exact sv65 G D
  · exact sv66 G D
  · exact sv67 G D
  · exact sv68 G D, ⟨fun sm h => by
  simp only [List.mem_cons, List.not_mem_nil, or_false] at h
  rcases h with rfl
  · exact sv0 G D, trivial⟩⟩
noncomputable def M69 : TT (SV × SP) := evFnD (cfgT F (fun _ => none) hpE T69) 2000 120 (patAs 0 [(true, [(.lit (.int .i64 (.lit 69))), (.lit (.str ⟨#[97, 109, 111, 109, 97, 120, 117, 46, 119]⟩)), (.lit (.int .i64 (.lit 13))), (.lit (.int .u32 (.lit 47))), (.lit (.int .u32 (.lit 2))), (.lit (.int .u32 (.lit 28))), (.lit (.int .i64 (.lit 6)))]), (false, [(.int .u32)])]) ⟨hpE, []⟩
def spc69 : PC := []
def r69_0c0 : RT := (.node (.cmp .eql (.bin .and .u32 (.cv .u32 (.var 0)) (.lit 127)) (.lit 47)) (.node (.cmp .eql (.bin .and .u32 (.bin .shr .u32 (.cv .u32 (.var 0)) (.lit 12)) (.lit 7)) (.lit 2)) (.leaf (.bool (.cmp .eql (.bin .shr .u32 (.cv .u32 (.var 0)) (.lit 27)) (.lit 28))))
 (.leaf (.bool (.lit false))))
 (.leaf (.bool (.lit false))))
theorem r69_0k0 : r69_0c0.ok 0 M69 spc69 = true := by kernel_rfl
def sm69 : Sm := ⟨[(true, [(.lit (.int .i64 (.lit 69))), (.lit (.str ⟨#[97, 109, 111, 109, 97, 120, 117, 46, 119]⟩)), (.lit (.int .i64 (.lit 13))), (.lit (.int .u32 (.lit 47))), (.lit (.int .u32 (.lit 2))), (.lit (.int .u32 (.lit 28))), (.lit (.int .i64 (.lit 6)))]), (false, [(.int .u32)])], false, r69_0c0⟩
theorem sv69 (G : Nat → Option Nat) (D : Hp) : SmValid Tryz.prog (GofSm G sm69) (DofSm D sm69) 120 sm69 := smValid0 (T := T69) (fuel := 2000) mixed hF (VT69 _ _) rfl r69_0k0
def T70 : List (Nat × List Sm) := [(120, [sm1, sm2, sm3, sm4, sm5, sm6, sm7, sm8, sm9, sm10, sm11, sm12, sm13, sm14, sm15, sm16, sm17, sm18, sm19, sm20, sm21, sm22, sm23, sm24, sm25, sm26, sm27, sm28, sm29, sm30, sm31, sm32, sm33, sm34, sm35, sm36, sm37, sm38, sm39, sm40, sm41, sm42, sm43, sm44, sm45, sm46, sm47, sm48, sm49, sm50, sm51, sm52, sm53, sm54, sm55, sm56, sm57, sm58, sm59, sm60, sm61, sm62, sm63, sm64, sm65, sm66, sm67, sm68, sm69]), (151, [sm0])]
theorem VT70 (G : Nat → Option Nat) (D : Hp) : AllV Tryz.prog G D T70 := ⟨fun sm h => by
  simp only [List.mem_cons, List.not_mem_nil, or_false] at h
  rcases h with rfl | rfl | rfl | rfl | rfl | rfl | rfl | rfl | rfl | rfl | rfl | rfl | rfl | rfl | rfl | rfl | rfl | rfl | rfl | rfl | rfl | rfl | rfl | rfl | rfl | rfl | rfl | rfl | rfl | rfl | rfl | rfl | rfl | rfl | rfl | rfl | rfl | rfl | rfl | rfl | rfl | rfl | rfl | rfl | rfl | rfl | rfl | rfl | rfl | rfl | rfl | rfl | rfl | rfl | rfl | rfl | rfl | rfl | rfl | rfl | rfl | rfl | rfl | rfl | rfl | rfl | rfl | rfl | rfl
  · exact sv1 G D
  · exact sv2 G D
  · exact sv3 G D
  · exact sv4 G D
  · exact sv5 G D
  · exact sv6 G D
  · exact sv7 G D
  · exact sv8 G D
  · exact sv9 G D
  · exact sv10 G D
  · exact sv11 G D
  · exact sv12 G D
  · exact sv13 G D
  · exact sv14 G D
  · exact sv15 G D
  · exact sv16 G D
  · exact sv17 G D
  · exact sv18 G D
  · exact sv19 G D
  · exact sv20 G D
  · exact sv21 G D
  · exact sv22 G D
  · exact sv23 G D
  · exact sv24 G D
  · exact sv25 G D
  · exact sv26 G D
  · exact sv27 G D
  · exact sv28 G D
  · exact sv29 G D
  · exact sv30 G D
  · exact sv31 G D
  · exact sv32 G D
  · exact sv33 G D
  · exact sv34 G D
  · exact sv35 G D
  · exact sv36 G D
  · exact sv37 G D
  · exact sv38 G D
  · exact sv39 G D
  · exact sv40 G D
  · exact sv41 G D
  · exact sv42 G D
  · exact sv43 G D
  · exact sv44 G D
  · exact sv45 G D
  · exact sv46 G D
  · exact sv47 G D
  · exact sv48 G D
  · exact sv49 G D
  · exact sv50 G D
  · exact sv51 G D
  · exact sv52 G D
  · exact sv53 G D
  · exact sv54 G D
  · exact sv55 G D
  · exact sv56 G D
  · exact sv57 G D
  · exact sv58 G D
  · exact sv59 G D
  · exact sv60 G D
  · exact sv61 G D
  · exact sv62 G D
  · exact sv63 G D
  · exact sv64 G D
  · exact sv65 G D
  · exact sv66 G D
  · exact sv67 G D
  · exact sv68 G D
  · exact sv69 G D, ⟨fun sm h => by
  simp only [List.mem_cons, List.not_mem_nil, or_false] at h
  rcases h with rfl
  · exact sv0 G D, trivial⟩⟩
noncomputable def M70 : TT (SV × SP) := evFnD (cfgT F (fun _ => none) hpE T70) 2000 85 (patAs 0 [(false, [(.pat .u32 .u32 (.bin .or .u32 (.bin .or .u32 (.lit 55) (.bin .add .u32 (.bin .and .u32 (.var 0) (.lit 4294963200)) (.lit 4096))) (.lit 128)))])]) ⟨hpE, []⟩
def spc70 : PC := []
def r70_0c0 : RT := (.leaf (.tuple [(.agg [(.int .i64 (.lit 1)), (.int .i64 (.lit 1)), (.int .i64 (.lit 0)), (.int .i64 (.lit 0)), (.int .i64 (.lit 0)), (.int .u32 (.bin .add .u32 (.bin .and .u32 (.cv .u32 (.var 0)) (.lit 4294963200)) (.lit 4096))), (.bool (.lit false)), (.bool (.lit false))]), (.bool (.lit true))]))
theorem r70_0k0 : r70_0c0.ok 0 M70 spc70 = true := by kernel_rfl
def sm70 : Sm := ⟨[(false, [(.pat .u32 .u32 (.bin .or .u32 (.bin .or .u32 (.lit 55) (.bin .add .u32 (.bin .and .u32 (.var 0) (.lit 4294963200)) (.lit 4096))) (.lit 128)))])], false, r70_0c0⟩
theorem sv70 (G : Nat → Option Nat) (D : Hp) : SmValid Tryz.prog (GofSm G sm70) (DofSm D sm70) 85 sm70 := smValid0 (T := T70) (fuel := 2000) mixed hF (VT70 _ _) rfl r70_0k0
def T71 : List (Nat × List Sm) := [(85, [sm70]), (120, [sm1, sm2, sm3, sm4, sm5, sm6, sm7, sm8, sm9, sm10, sm11, sm12, sm13, sm14, sm15, sm16, sm17, sm18, sm19, sm20, sm21, sm22, sm23, sm24, sm25, sm26, sm27, sm28, sm29, sm30, sm31, sm32, sm33, sm34, sm35, sm36, sm37, sm38, sm39, sm40, sm41, sm42, sm43, sm44, sm45, sm46, sm47, sm48, sm49, sm50, sm51, sm52, sm53, sm54, sm55, sm56, sm57, sm58, sm59, sm60, sm61, sm62, sm63, sm64, sm65, sm66, sm67, sm68, sm69]), (151, [sm0])]
theorem VT71 (G : Nat → Option Nat) (D : Hp) : AllV Tryz.prog G D T71 := ⟨fun sm h => by
  simp only [List.mem_cons, List.not_mem_nil, or_false] at h
  rcases h with rfl
  · exact sv70 G D, ⟨fun sm h => by
  simp only [List.mem_cons, List.not_mem_nil, or_false] at h
  rcases h with rfl | rfl | rfl | rfl | rfl | rfl | rfl | rfl | rfl | rfl | rfl | rfl | rfl | rfl | rfl | rfl | rfl | rfl | rfl | rfl | rfl | rfl | rfl | rfl | rfl | rfl | rfl | rfl | rfl | rfl | rfl | rfl | rfl | rfl | rfl | rfl | rfl | rfl | rfl | rfl | rfl | rfl | rfl | rfl | rfl | rfl | rfl | rfl | rfl | rfl | rfl | rfl | rfl | rfl | rfl | rfl | rfl | rfl | rfl | rfl | rfl | rfl | rfl | rfl | rfl | rfl | rfl | rfl | rfl
  · exact sv1 G D
  · exact sv2 G D
  · exact sv3 G D
  · exact sv4 G D
  · exact sv5 G D
  · exact sv6 G D
  · exact sv7 G D
  · exact sv8 G D
  · exact sv9 G D
  · exact sv10 G D
  · exact sv11 G D
  · exact sv12 G D
  · exact sv13 G D
  · exact sv14 G D
  · exact sv15 G D
  · exact sv16 G D
  · exact sv17 G D
  · exact sv18 G D
  · exact sv19 G D
  · exact sv20 G D
  · exact sv21 G D
  · exact sv22 G D
  · exact sv23 G D
  · exact sv24 G D
  · exact sv25 G D
  · exact sv26 G D
  · exact sv27 G D
  · exact sv28 G D
  · exact sv29 G D
  · exact sv30 G D
  · exact sv31 G D
  · exact sv32 G D
  · exact sv33 G D
  · exact sv34 G D
  · exact sv35 G D
  · exact sv36 G D
  · exact sv37 G D
  · exact sv38 G D
  · exact sv39 G D
  · exact sv40 G D
  · exact sv41 G D
  · exact sv42 G D
  · exact sv43 G D
  · exact sv44 G D
  · exact sv45 G D
  · exact sv46 G D
  · exact sv47 G D
  · exact sv48 G D
  · exact sv49 G D
  · exact sv50 G D
  · exact sv51 G D
  · exact sv52 G D
  · exact sv53 G D
  · exact sv54 G D
  · exact sv55 G D
  · exact sv56 G D
  · exact sv57 G D
  · exact sv58 G D
  · exact sv59 G D
  · exact sv60 G D
  · exact sv61 G D
  · exact sv62 G D
  · exact sv63 G D
  · exact sv64 G D
  · exact sv65 G D
  · exact sv66 G D
  · exact sv67 G D
  · exact sv68 G D
  · exact sv69 G D, ⟨fun sm h => by
  simp only [List.mem_cons, List.not_mem_nil, or_false] at h
  rcases h with rfl
  · exact sv0 G D, trivial⟩⟩⟩
noncomputable def M71 : TT (SV × SP) := evFnD (cfgT F (fun _ => none) hpE T71) 2000 85 (patAs 0 [(false, [(.pat .u32 .u32 (.bin .or .u32 (.bin .or .u32 (.lit 55) (.bin .and .u32 (.var 0) (.lit 4294963200))) (.lit 128)))])]) ⟨hpE, []⟩
def spc71 : PC := []
def r71_0c0 : RT := (.leaf (.tuple [(.agg [(.int .i64 (.lit 1)), (.int .i64 (.lit 1)), (.int .i64 (.lit 0)), (.int .i64 (.lit 0)), (.int .i64 (.lit 0)), (.int .u32 (.bin .and .u32 (.cv .u32 (.var 0)) (.lit 4294963200))), (.bool (.lit false)), (.bool (.lit false))]), (.bool (.lit true))]))
theorem r71_0k0 : r71_0c0.ok 0 M71 spc71 = true := by kernel_rfl
def sm71 : Sm := ⟨[(false, [(.pat .u32 .u32 (.bin .or .u32 (.bin .or .u32 (.lit 55) (.bin .and .u32 (.var 0) (.lit 4294963200))) (.lit 128)))])], false, r71_0c0⟩
theorem sv71 (G : Nat → Option Nat) (D : Hp) : SmValid Tryz.prog (GofSm G sm71) (DofSm D sm71) 85 sm71 := smValid0 (T := T71) (fuel := 2000) mixed hF (VT71 _ _) rfl r71_0k0
def T72 : List (Nat × List Sm) := [(85, [sm70, sm71]), (120, [sm1, sm2, sm3, sm4, sm5, sm6, sm7, sm8, sm9, sm10, sm11, sm12, sm13, sm14, sm15, sm16, sm17, sm18, sm19, sm20, sm21, sm22, sm23, sm24, sm25, sm26, sm27, sm28, sm29, sm30, sm31, sm32, sm33, sm34, sm35, sm36, sm37, sm38, sm39, sm40, sm41, sm42, sm43, sm44, sm45, sm46, sm47, sm48, sm49, sm50, sm51, sm52, sm53, sm54, sm55, sm56, sm57, sm58, sm59, sm60, sm61, sm62, sm63, sm64, sm65, sm66, sm67, sm68, sm69]), (151, [sm0])]
theorem VT72 (G : Nat → Option Nat) (D : Hp) : AllV Tryz.prog G D T72 := ⟨fun sm h => by
  simp only [List.mem_cons, List.not_mem_nil, or_false] at h
  rcases h with rfl | rfl
  · exact sv70 G D
  · exact sv71 G D, ⟨fun sm h => by
  simp only [List.mem_cons, List.not_mem_nil, or_false] at h
  rcases h with rfl | rfl | rfl | rfl | rfl | rfl | rfl | rfl | rfl | rfl | rfl | rfl | rfl | rfl | rfl | rfl | rfl | rfl | rfl | rfl | rfl | rfl | rfl | rfl | rfl | rfl | rfl | rfl | rfl | rfl | rfl | rfl | rfl | rfl | rfl | rfl | rfl | rfl | rfl | rfl | rfl | rfl | rfl | rfl | rfl | rfl | rfl | rfl | rfl | rfl | rfl | rfl | rfl | rfl | rfl | rfl | rfl | rfl | rfl | rfl | rfl | rfl | rfl | rfl | rfl | rfl | rfl | rfl | rfl
  · exact sv1 G D
  · exact sv2 G D
  · exact sv3 G D
  · exact sv4 G D
  · exact sv5 G D
  · exact sv6 G D
  · exact sv7 G D
  · exact sv8 G D
  · exact sv9 G D
  · exact sv10 G D
  · exact sv11 G D
  · exact sv12 G D
  · exact sv13 G D
  · exact sv14 G D
  · exact sv15 G D
  · exact sv16 G D
  · exact sv17 G D
  · exact sv18 G D
  · exact sv19 G D
  · exact sv20 G D
  · exact sv21 G D
  · exact sv22 G D
  · exact sv23 G D
  · exact sv24 G D
  · exact sv25 G D
  · exact sv26 G D
  · exact sv27 G D
  · exact sv28 G D
  · exact sv29 G D
  · exact sv30 G D
  · exact sv31 G D
  · exact sv32 G D
  · exact sv33 G D
  · exact sv34 G D
  · exact sv35 G D
  · exact sv36 G D
  · exact sv37 G D
  · exact sv38 G D
  · exact sv39 G D
  · exact sv40 G D
  · exact sv41 G D
  · exact sv42 G D
  · exact sv43 G D
  · exact sv44 G D
  · exact sv45 G D
  · exact sv46 G D
  · exact sv47 G D
  · exact sv48 G D
  · exact sv49 G D
  · exact sv50 G D
  · exact sv51 G D
  · exact sv52 G D
  · exact sv53 G D
  · exact sv54 G D
  · exact sv55 G D
  · exact sv56 G D
  · exact sv57 G D
  · exact sv58 G D
  · exact sv59 G D
  · exact sv60 G D
  · exact sv61 G D
  · exact sv62 G D
  · exact sv63 G D
  · exact sv64 G D
  · exact sv65 G D
  · exact sv66 G D
  · exact sv67 G D
  · exact sv68 G D
  · exact sv69 G D, ⟨fun sm h => by
  simp only [List.mem_cons, List.not_mem_nil, or_false] at h
  rcases h with rfl
  · exact sv0 G D, trivial⟩⟩⟩
noncomputable def M72 : TT (SV × SP) := evFnD (cfgT F (fun _ => none) hpE T72) 2000 85 (patAs 0 [(false, [(.pat .u32 .u32 (.bin .or .u32 (.bin .or .u32 (.bin .or .u32 (.lit 19) (.bin .shl .u32 (.bin .and .u32 (.var 0) (.lit 4095)) (.lit 20))) (.lit 128)) (.lit 32768)))])]) ⟨hpE, []⟩
def spc72 : PC := []
def r72_0c0 : RT := (.node (.cmp .eql (.bin .and .u32 (.bin .shr .u32 (.cv .u32 (.var 0)) (.lit 11)) (.lit 1)) (.lit 1)) (.leaf (.tuple [(.agg [(.int .i64 (.lit 19)), (.int .i64 (.lit 1)), (.int .i64 (.lit 1)), (.int .i64 (.lit 0)), (.int .i64 (.lit 0)), (.int .u32 (.bin .or .u32 (.bin .and .u32 (.cv .u32 (.var 0)) (.lit 4095)) (.lit 4294963200))), (.bool (.lit false)), (.bool (.lit false))]), (.bool (.lit true))]))
 (.leaf (.tuple [(.agg [(.int .i64 (.lit 19)), (.int .i64 (.lit 1)), (.int .i64 (.lit 1)), (.int .i64 (.lit 0)), (.int .i64 (.lit 0)), (.int .u32 (.bin .and .u32 (.cv .u32 (.var 0)) (.lit 4095))), (.bool (.lit false)), (.bool (.lit false))]), (.bool (.lit true))])))
theorem r72_0k0 : r72_0c0.ok 0 M72 spc72 = true := by kernel_rfl
def sm72 : Sm := ⟨[(false, [(.pat .u32 .u32 (.bin .or .u32 (.bin .or .u32 (.bin .or .u32 (.lit 19) (.bin .shl .u32 (.bin .and .u32 (.var 0) (.lit 4095)) (.lit 20))) (.lit 128)) (.lit 32768)))])], false, r72_0c0⟩
theorem sv72 (G : Nat → Option Nat) (D : Hp) : SmValid Tryz.prog (GofSm G sm72) (DofSm D sm72) 85 sm72 := smValid0 (T := T72) (fuel := 2000) mixed hF (VT72 _ _) rfl r72_0k0
def T73 : List (Nat × List Sm) := [(85, [sm70, sm71, sm72]), (120, [sm1, sm2, sm3, sm4, sm5, sm6, sm7, sm8, sm9, sm10, sm11, sm12, sm13, sm14, sm15, sm16, sm17, sm18, sm19, sm20, sm21, sm22, sm23, sm24, sm25, sm26, sm27, sm28, sm29, sm30, sm31, sm32, sm33, sm34, sm35, sm36, sm37, sm38, sm39, sm40, sm41, sm42, sm43, sm44, sm45, sm46, sm47, sm48, sm49, sm50, sm51, sm52, sm53, sm54, sm55, sm56, sm57, sm58, sm59, sm60, sm61, sm62, sm63, sm64, sm65, sm66, sm67, sm68, sm69]), (151, [sm0])]
theorem VT73 (G : Nat → Option Nat) (D : Hp) : AllV Tryz.prog G D T73 := ⟨fun sm h => by
  simp only [List.mem_cons, List.not_mem_nil, or_false] at h
  rcases h with rfl | rfl | rfl
  · exact sv70 G D
  · exact sv71 G D
  · exact sv72 G D, ⟨fun sm h => by
  simp only [List.mem_cons, List.not_mem_nil, or_false] at h
  rcases h with rfl | rfl | rfl | rfl | rfl | rfl | rfl | rfl | rfl | rfl | rfl | rfl | rfl | rfl | rfl | rfl | rfl | rfl | rfl | rfl | rfl | rfl | rfl | rfl | rfl | rfl | rfl | rfl | rfl | rfl | rfl | rfl | rfl | rfl | rfl | rfl | rfl | rfl | rfl | rfl | rfl | rfl | rfl | rfl | rfl | rfl | rfl | rfl | rfl | rfl | rfl | rfl | rfl | rfl | rfl | rfl | rfl | rfl | rfl | rfl | rfl | rfl | rfl | rfl | rfl | rfl | rfl | rfl | rfl
  · exact sv1 G D
  · exact sv2 G D
  · exact sv3 G D
  · exact sv4 G D
  · exact sv5 G D
  · exact sv6 G D
  · exact sv7 G D
  · exact sv8 G D
  · exact sv9 G D
  · exact sv10 G D
  · exact sv11 G D
  · exact sv12 G D
  · exact sv13 G D
  · exact sv14 G D
  · exact sv15 G D
  · exact sv16 G D
  · exact sv17 G D
  · exact sv18 G D
  · exact sv19 G D
  · exact sv20 G D
  · exact sv21 G D
  · exact sv22 G D
  · exact sv23 G D
  · exact sv24 G D
  · exact sv25 G D
  · exact sv26 G D
  · exact sv27 G D
  · exact sv28 G D
  · exact sv29 G D
  · exact sv30 G D
  · exact sv31 G D
  · exact sv32 G D
  · exact sv33 G D
  · exact sv34 G D
  · exact sv35 G D
  · exact sv36 G D
  · exact sv37 G D
  · exact sv38 G D
  · exact sv39 G D
  · exact sv40 G D
  · exact sv41 G D
  · exact sv42 G D
  · exact sv43 G D
  · exact sv44 G D
  · exact sv45 G D
  · exact sv46 G D
  · exact sv47 G D
  · exact sv48 G D
  · exact sv49 G D
  · exact sv50 G D
  · exact sv51 G D
  · exact sv52 G D
  · exact sv53 G D
  · exact sv54 G D
  · exact sv55 G D
  · exact sv56 G D
  · exact sv57 G D
  · exact sv58 G D
  · exact sv59 G D
  · exact sv60 G D
  · exact sv61 G D
  · exact sv62 G D
  · exact sv63 G D
  · exact sv64 G D
  · exact sv65 G D
  · exact sv66 G D
  · exact sv67 G D
  · exact sv68 G D
  · exact sv69 G D, ⟨fun sm h => by
  simp only [List.mem_cons, List.not_mem_nil, or_false] at h
  rcases h with rfl
  · exact sv0 G D, trivial⟩⟩⟩
noncomputable def M73 : TT (SV × SP) := evFnD (cfgT F (fun _ => none) hpE T73) 2000 85 (patAs 0 [(false, [(.pat .u32 .u32 (.bin .or .u32 (.bin .or .u32 (.lit 55) (.bin .add .u32 (.bin .and .u32 (.var 0) (.lit 4294963200)) (.lit 4096))) (.lit 256)))])]) ⟨hpE, []⟩
def spc73 : PC := []
def r73_0c0 : RT := (.leaf (.tuple [(.agg [(.int .i64 (.lit 1)), (.int .i64 (.lit 2)), (.int .i64 (.lit 0)), (.int .i64 (.lit 0)), (.int .i64 (.lit 0)), (.int .u32 (.bin .add .u32 (.bin .and .u32 (.cv .u32 (.var 0)) (.lit 4294963200)) (.lit 4096))), (.bool (.lit false)), (.bool (.lit false))]), (.bool (.lit true))]))
theorem r73_0k0 : r73_0c0.ok 0 M73 spc73 = true := by kernel_rfl
def sm73 : Sm := ⟨[(false, [(.pat .u32 .u32 (.bin .or .u32 (.bin .or .u32 (.lit 55) (.bin .add .u32 (.bin .and .u32 (.var 0) (.lit 4294963200)) (.lit 4096))) (.lit 256)))])], false, r73_0c0⟩
theorem sv73 (G : Nat → Option Nat) (D : Hp) : SmValid Tryz.prog (GofSm G sm73) (DofSm D sm73) 85 sm73 := smValid0 (T := T73) (fuel := 2000) mixed hF (VT73 _ _) rfl r73_0k0
def T74 : List (Nat × List Sm) := [(85, [sm70, sm71, sm72, sm73]), (120, [sm1, sm2, sm3, sm4, sm5, sm6, sm7, sm8, sm9, sm10, sm11, sm12, sm13, sm14, sm15, sm16, sm17, sm18, sm19, sm20, sm21, sm22, sm23, sm24, sm25, sm26, sm27, sm28, sm29, sm30, sm31, sm32, sm33, sm34, sm35, sm36, sm37, sm38, sm39, sm40, sm41, sm42, sm43, sm44, sm45, sm46, sm47, sm48, sm49, sm50, sm51, sm52, sm53, sm54, sm55, sm56, sm57, sm58, sm59, sm60, sm61, sm62, sm63, sm64, sm65, sm66, sm67, sm68, sm69]), (151, [sm0])]
theorem VT74 (G : Nat → Option Nat) (D : Hp) : AllV Tryz.prog G D T74 := ⟨fun sm h => by
  simp only [List.mem_cons, List.not_mem_nil, or_false] at h
  rcases h with rfl | rfl | rfl | rfl
  · exact sv70 G D
  · exact sv71 G D
  · exact sv72 G D
  · exact sv73 G D, ⟨fun sm h => by
  simp only [List.mem_cons, List.not_mem_nil, or_false] at h
  rcases h with rfl | rfl | rfl | rfl | rfl | rfl | rfl | rfl | rfl | rfl | rfl | rfl | rfl | rfl | rfl | rfl | rfl | rfl | rfl | rfl | rfl | rfl | rfl | rfl | rfl | rfl | rfl | rfl | rfl | rfl | rfl | rfl | rfl | rfl | rfl | rfl | rfl | rfl | rfl | rfl | rfl | rfl | rfl | rfl | rfl | rfl | rfl | rfl | rfl | rfl | rfl | rfl | rfl | rfl | rfl | rfl | rfl | rfl | rfl | rfl | rfl | rfl | rfl | rfl | rfl | rfl | rfl | rfl | rfl
  · exact sv1 G D
  · exact sv2 G D
  · exact sv3 G D
  · exact sv4 G D
  · exact sv5 G D
  · exact sv6 G D
  · exact sv7 G D
  · exact sv8 G D
  · exact sv9 G D
  · exact sv10 G D
  · exact sv11 G D
  · exact sv12 G D
  · exact sv13 G D
  · exact sv14 G D
  · exact sv15 G D
  · exact sv16 G D
  · exact sv17 G D
  · exact sv18 G D
  · exact sv19 G D
  · exact sv20 G D
  · exact sv21 G D
  · exact sv22 G D
  · exact sv23 G D
  · exact sv24 G D
  · exact sv25 G D
  · exact sv26 G D
  · exact sv27 G D
  · exact sv28 G D
  · exact sv29 G D
  · exact sv30 G D
  · exact sv31 G D
  · exact sv32 G D
  · exact sv33 G D
  · exact sv34 G D
  · exact sv35 G D
  · exact sv36 G D
  · exact sv37 G D
  · exact sv38 G D
  · exact sv39 G D
  · exact sv40 G D
  · exact sv41 G D
  · exact sv42 G D
  · exact sv43 G D
  · exact sv44 G D
  · exact sv45 G D
  · exact sv46 G D
  · exact sv47 G D
  · exact sv48 G D
  · exact sv49 G D
  · exact sv50 G D
  · exact sv51 G D
  · exact sv52 G D
  · exact sv53 G D
  · exact sv54 G D
  · exact sv55 G D
  · exact sv56 G D
  · exact sv57 G D
  · exact sv58 G D
  · exact sv59 G D
  · exact sv60 G D
  · exact sv61 G D
  · exact sv62 G D
  · exact sv63 G D
  · exact sv64 G D
  · exact sv65 G D
  · exact sv66 G D
  · exact sv67 G D
  · exact sv68 G D
  · exact sv69 G D, ⟨fun sm h => by
  simp only [List.mem_cons, List.not_mem_nil, or_false] at h
  rcases h with rfl
  · exact sv0 G D, trivial⟩⟩⟩
noncomputable def M74 : TT (SV × SP) := evFnD (cfgT F (fun _ => none) hpE T74) 2000 85 (patAs 0 [(false, [(.pat .u32 .u32 (.bin .or .u32 (.bin .or .u32 (.lit 55) (.bin .and .u32 (.var 0) (.lit 4294963200))) (.lit 256)))])]) ⟨hpE, []⟩
def spc74 : PC := []
def r74_0c0 : RT := (.leaf (.tuple [(.agg [(.int .i64 (.lit 1)), (.int .i64 (.lit 2)), (.int .i64 (.lit 0)), (.int .i64 (.lit 0)), (.int .i64 (.lit 0)), (.int .u32 (.bin .and .u32 (.cv .u32 (.var 0)) (.lit 4294963200))), (.bool (.lit false)), (.bool (.lit false))]), (.bool (.lit true))]))
theorem r74_0k0 : r74_0c0.ok 0 M74 spc74 = true := by kernel_rfl
def sm74 : Sm := ⟨[(false, [(.pat .u32 .u32 (.bin .or .u32 (.bin .or .u32 (.lit 55) (.bin .and .u32 (.var 0) (.lit 4294963200))) (.lit 256)))])], false, r74_0c0⟩
theorem sv74 (G : Nat → Option Nat) (D : Hp) : SmValid Tryz.prog (GofSm G sm74) (DofSm D sm74) 85 sm74 := smValid0 (T := T74) (fuel := 2000) mixed hF (VT74 _ _) rfl r74_0k0
def T75 : List (Nat × List Sm) := [(85, [sm70, sm71, sm72, sm73, sm74]), (120, [sm1, sm2, sm3, sm4, sm5, sm6, sm7, sm8, sm9, sm10, sm11, sm12, sm13, sm14, sm15, sm16, sm17, sm18, sm19, sm20, sm21, sm22, sm23, sm24, sm25, sm26, sm27, sm28, sm29, sm30, sm31, sm32, sm33, sm34, sm35, sm36, sm37, sm38, sm39, sm40, sm41, sm42, sm43, sm44, sm45, sm46, sm47, sm48, sm49, sm50, sm51, sm52, sm53, sm54, sm55, sm56, sm57, sm58, sm59, sm60, sm61, sm62, sm63, sm64, sm65, sm66, sm67, sm68, sm69]), (151, [sm0])]
theorem VT75 (G : Nat → Option Nat) (D : Hp) : AllV Tryz.prog G D T75 := ⟨fun sm h => by
  simp only [List.mem_cons, List.not_mem_nil, or_false] at h
  rcases h with rfl | rfl | rfl | rfl | rfl
  · exact sv70 G D
  · exact sv71 G D
  · exact sv72 G D
  · exact sv73 G D
  · exact sv74 G D, ⟨fun sm h => by
  simp only [List.mem_cons, List.not_mem_nil, or_false] at h
  rcases h with rfl | rfl | rfl | rfl | rfl | rfl | rfl | rfl | rfl | rfl | rfl | rfl | rfl | rfl | rfl | rfl | rfl | rfl | rfl | rfl | rfl | rfl | rfl | rfl | rfl | rfl | rfl | rfl | rfl | rfl | rfl | rfl | rfl | rfl | rfl | rfl | rfl | rfl | rfl | rfl | rfl | rfl | rfl | rfl | rfl | rfl | rfl | rfl | rfl | rfl | rfl | rfl | rfl | rfl | rfl | rfl | rfl | rfl | rfl | rfl | rfl | rfl | rfl | rfl | rfl | rfl | rfl | rfl | rfl
  · exact sv1 G D
  · exact sv2 G D
  · exact sv3 G D
  · exact sv4 G D
  · exact sv5 G D
  · exact sv6 G D
  · exact sv7 G D
  · exact sv8 G D
  · exact sv9 G D
  · exact sv10 G D
  · exact sv11 G D
  · exact sv12 G D
  · exact sv13 G D
  · exact sv14 G D
  · exact sv15 G D
  · exact sv16 G D
  · exact sv17 G D
  · exact sv18 G D
  · exact sv19 G D
  · exact sv20 G D
  · exact sv21 G D
  · exact sv22 G D
  · exact sv23 G D
  · exact sv24 G D
  · exact sv25 G D
  · exact sv26 G D
  · exact sv27 G D
  · exact sv28 G D
  · exact sv29 G D
  · exact sv30 G D
  · exact sv31 G D
  · exact sv32 G D
  · exact sv33 G D
  · exact sv34 G D
  · exact sv35 G D
  · exact sv36 G D
  · exact sv37 G D
  · exact sv38 G D
  · exact sv39 G D
  · exact sv40 G D
  · exact sv41 G D
  · exact sv42 G D
  · exact sv43 G D
  · exact sv44 G D
  · exact sv45 G D
  · exact sv46 G D
  · exact sv47 G D
  · exact sv48 G D
  · exact sv49 G D
  · exact sv50 G D
  · exact sv51 G D
  · exact sv52 G D
  · exact sv53 G D
  · exact sv54 G D
  · exact sv55 G D
  · exact sv56 G D
  · exact sv57 G D
  · exact sv58 G D
  · exact sv59 G D
  · exact sv60 G D
  · exact sv61 G D
  · exact sv62 G D
  · exact sv63 G D
  · exact sv64 G D
  · exact sv65 G D
  · exact sv66 G D
  · exact sv67 G D
  · exact sv68 G D
  · exact sv69 G D, ⟨fun sm h => by
  simp only [List.mem_cons, List.not_mem_nil, or_false] at h
  rcases h with rfl
  · exact sv0 G D, trivial⟩⟩⟩
noncomputable def M75 : TT (SV × SP) := evFnD (cfgT F (fun _ => none) hpE T75) 2000 85 (patAs 0 [(false, [(.pat .u32 .u32 (.bin .or .u32 (.bin .or .u32 (.bin .or .u32 (.lit 19) (.bin .shl .u32 (.bin .and .u32 (.var 0) (.lit 4095)) (.lit 20))) (.lit 256)) (.lit 65536)))])]) ⟨hpE, []⟩
def spc75 : PC := []
def r75_0c0 : RT := (.node (.cmp .eql (.bin .and .u32 (.bin .shr .u32 (.cv .u32 (.var 0)) (.lit 11)) (.lit 1)) (.lit 1)) (.leaf (.tuple [(.agg [(.int .i64 (.lit 19)), (.int .i64 (.lit 2)), (.int .i64 (.lit 2)), (.int .i64 (.lit 0)), (.int .i64 (.lit 0)), (.int .u32 (.bin .or .u32 (.bin .and .u32 (.cv .u32 (.var 0)) (.lit 4095)) (.lit 4294963200))), (.bool (.lit false)), (.bool (.lit false))]), (.bool (.lit true))]))
 (.leaf (.tuple [(.agg [(.int .i64 (.lit 19)), (.int .i64 (.lit 2)), (.int .i64 (.lit 2)), (.int .i64 (.lit 0)), (.int .i64 (.lit 0)), (.int .u32 (.bin .and .u32 (.cv .u32 (.var 0)) (.lit 4095))), (.bool (.lit false)), (.bool (.lit false))]), (.bool (.lit true))])))
theorem r75_0k0 : r75_0c0.ok 0 M75 spc75 = true := by kernel_rfl
def sm75 : Sm := ⟨[(false, [(.pat .u32 .u32 (.bin .or .u32 (.bin .or .u32 (.bin .or .u32 (.lit 19) (.bin .shl .u32 (.bin .and .u32 (.var 0) (.lit 4095)) (.lit 20))) (.lit 256)) (.lit 65536)))])], false, r75_0c0⟩
theorem sv75 (G : Nat → Option Nat) (D : Hp) : SmValid Tryz.prog (GofSm G sm75) (DofSm D sm75) 85 sm75 := smValid0 (T := T75) (fuel := 2000) mixed hF (VT75 _ _) rfl r75_0k0
def T76 : List (Nat × List Sm) := [(85, [sm70, sm71, sm72, sm73, sm74, sm75]), (120, [sm1, sm2, sm3, sm4, sm5, sm6, sm7, sm8, sm9, sm10, sm11, sm12, sm13, sm14, sm15, sm16, sm17, sm18, sm19, sm20, sm21, sm22, sm23, sm24, sm25, sm26, sm27, sm28, sm29, sm30, sm31, sm32, sm33, sm34, sm35, sm36, sm37, sm38, sm39, sm40, sm41, sm42, sm43, sm44, sm45, sm46, sm47, sm48, sm49, sm50, sm51, sm52, sm53, sm54, sm55, sm56, sm57, sm58, sm59, sm60, sm61, sm62, sm63, sm64, sm65, sm66, sm67, sm68, sm69]), (151, [sm0])]
theorem VT76 (G : Nat → Option Nat) (D : Hp) : AllV Tryz.prog G D T76 := ⟨fun sm h => by
  simp only [List.mem_cons, List.not_mem_nil, or_false] at h
  rcases h with rfl | rfl | rfl | rfl | rfl | rfl
  · exact sv70 G D
  · exact sv71 G D
  · exact sv72 G D
  · exact sv73 G D
  · exact sv74 G D
  · exact sv75 G D, ⟨fun sm h => by
  simp only [List.mem_cons, List.not_mem_nil, or_false] at h
  rcases h with rfl | rfl | rfl | rfl | rfl | rfl | rfl | rfl | rfl | rfl | rfl | rfl | rfl | rfl | rfl | rfl | rfl | rfl | rfl | rfl | rfl | rfl | rfl | rfl | rfl | rfl | rfl | rfl | rfl | rfl | rfl | rfl | rfl | rfl | rfl | rfl | rfl | rfl | rfl | rfl | rfl | rfl | rfl | rfl | rfl | rfl | rfl | rfl | rfl | rfl | rfl | rfl | rfl | rfl | rfl | rfl | rfl | rfl | rfl | rfl | rfl | rfl | rfl | rfl | rfl | rfl | rfl | rfl | rfl
  · exact sv1 G D
  · exact sv2 G D
  · exact sv3 G D
  · exact sv4 G D
  · exact sv5 G D
  · exact sv6 G D
  · exact sv7 G D
  · exact sv8 G D
  · exact sv9 G D
  · exact sv10 G D
  · exact sv11 G D
  · exact sv12 G D
  · exact sv13 G D
  · exact sv14 G D
  · exact sv15 G D
  · exact sv16 G D
  · exact sv17 G D
  · exact sv18 G D
  · exact sv19 G D
  · exact sv20 G D
  · exact sv21 G D
  · exact sv22 G D
  · exact sv23 G D
  · exact sv24 G D
  · exact sv25 G D
  · exact sv26 G D
  · exact sv27 G D
  · exact sv28 G D
  · exact sv29 G D
  · exact sv30 G D
  · exact sv31 G D
  · exact sv32 G D
  · exact sv33 G D
  · exact sv34 G D
  · exact sv35 G D
  · exact sv36 G D
  · exact sv37 G D
  · exact sv38 G D
  · exact sv39 G D
  · exact sv40 G D
  · exact sv41 G D
  · exact sv42 G D
  · exact sv43 G D
  · exact sv44 G D
  · exact sv45 G D
  · exact sv46 G D
  · exact sv47 G D
  · exact sv48 G D
  · exact sv49 G D
  · exact sv50 G D
  · exact sv51 G D
  · exact sv52 G D
  · exact sv53 G D
  · exact sv54 G D
  · exact sv55 G D
  · exact sv56 G D
  · exact sv57 G D
  · exact sv58 G D
  · exact sv59 G D
  · exact sv60 G D
  · exact sv61 G D
  · exact sv62 G D
  · exact sv63 G D
  · exact sv64 G D
  · exact sv65 G D
  · exact sv66 G D
  · exact sv67 G D
  · exact sv68 G D
  · exact sv69 G D, ⟨fun sm h => by
  simp only [List.mem_cons, List.not_mem_nil, or_false] at h
  rcases h with rfl
  · exact sv0 G D, trivial⟩⟩⟩
noncomputable def M76 : TT (SV × SP) := evFnD (cfgT F (fun _ => none) hpE T76) 2000 85 (patAs 0 [(false, [(.lit (.int .u32 (.lit 0)))])]) ⟨hpE, []⟩
def spc76 : PC := []
def r76_0c0 : RT := (.leaf (.tuple [(.agg [(.int .i64 (.lit 0)), (.int .i64 (.lit 0)), (.int .i64 (.lit 0)), (.int .i64 (.lit 0)), (.int .i64 (.lit 0)), (.int .u32 (.lit 0)), (.bool (.lit false)), (.bool (.lit false))]), (.bool (.lit false))]))
theorem r76_0k0 : r76_0c0.ok 0 M76 spc76 = true := by kernel_rfl
def sm76 : Sm := ⟨[(false, [(.lit (.int .u32 (.lit 0)))])], false, r76_0c0⟩
theorem sv76 (G : Nat → Option Nat) (D : Hp) : SmValid Tryz.prog (GofSm G sm76) (DofSm D sm76) 85 sm76 := smValid0 (T := T76) (fuel := 2000) mixed hF (VT76 _ _) rfl r76_0k0
def T77 : List (Nat × List Sm) := [(85, [sm70, sm71, sm72, sm73, sm74, sm75, sm76]), (120, [sm1, sm2, sm3, sm4, sm5, sm6, sm7, sm8, sm9, sm10, sm11, sm12, sm13, sm14, sm15, sm16, sm17, sm18, sm19, sm20, sm21, sm22, sm23, sm24, sm25, sm26, sm27, sm28, sm29, sm30, sm31, sm32, sm33, sm34, sm35, sm36, sm37, sm38, sm39, sm40, sm41, sm42, sm43, sm44, sm45, sm46, sm47, sm48, sm49, sm50, sm51, sm52, sm53, sm54, sm55, sm56, sm57, sm58, sm59, sm60, sm61, sm62, sm63, sm64, sm65, sm66, sm67, sm68, sm69]), (151, [sm0])]
theorem VT77 (G : Nat → Option Nat) (D : Hp) : AllV Tryz.prog G D T77 := ⟨fun sm h => by
  simp only [List.mem_cons, List.not_mem_nil, or_false] at h
  rcases h with rfl | rfl | rfl | rfl | rfl | rfl | rfl
  · exact sv70 G D
  · exact sv71 G D
  · exact sv72 G D
  · exact sv73 G D
  · exact sv74 G D
  · exact sv75 G D
  · exact sv76 G D, ⟨fun sm h => by
  simp only [List.mem_cons, List.not_mem_nil, or_false] at h
  rcases h with rfl | rfl | rfl | rfl | rfl | rfl | rfl | rfl | rfl | rfl | rfl | rfl | rfl | rfl | rfl | rfl | rfl | rfl | rfl | rfl | rfl | rfl | rfl | rfl | rfl | rfl | rfl | rfl | rfl | rfl | rfl | rfl | rfl | rfl | rfl | rfl | rfl | rfl | rfl | rfl | rfl | rfl | rfl | rfl | rfl | rfl | rfl | rfl | rfl | rfl | rfl | rfl | rfl | rfl | rfl | rfl | rfl | rfl | rfl | rfl | rfl | rfl | rfl | rfl | rfl | rfl | rfl | rfl | rfl
  · exact sv1 G D
  · exact sv2 G D
  · exact sv3 G D
  · exact sv4 G D
  · exact sv5 G D
  · exact sv6 G D
  · exact sv7 G D
  · exact sv8 G D
  · exact sv9 G D
  · exact sv10 G D
  · exact sv11 G D
  · exact sv12 G D
  · exact sv13 G D
  · exact sv14 G D
  · exact sv15 G D
  · exact sv16 G D
  · exact sv17 G D
  · exact sv18 G D
  · exact sv19 G D
  · exact sv20 G D
  · exact sv21 G D
  · exact sv22 G D
  · exact sv23 G D
  · exact sv24 G D
  · exact sv25 G D
  · exact sv26 G D
  · exact sv27 G D
  · exact sv28 G D
  · exact sv29 G D
  · exact sv30 G D
  · exact sv31 G D
  · exact sv32 G D
  · exact sv33 G D
  · exact sv34 G D
  · exact sv35 G D
  · exact sv36 G D
  · exact sv37 G D
  · exact sv38 G D
  · exact sv39 G D
  · exact sv40 G D
  · exact sv41 G D
  · exact sv42 G D
  · exact sv43 G D
  · exact sv44 G D
  · exact sv45 G D
  · exact sv46 G D
  · exact sv47 G D
  · exact sv48 G D
  · exact sv49 G D
  · exact sv50 G D
  · exact sv51 G D
  · exact sv52 G D
  · exact sv53 G D
  · exact sv54 G D
  · exact sv55 G D
  · exact sv56 G D
  · exact sv57 G D
  · exact sv58 G D
  · exact sv59 G D
  · exact sv60 G D
  · exact sv61 G D
  · exact sv62 G D
  · exact sv63 G D
  · exact sv64 G D
  · exact sv65 G D
  · exact sv66 G D
  · exact sv67 G D
  · exact sv68 G D
  · exact sv69 G D, ⟨fun sm h => by
  simp only [List.mem_cons, List.not_mem_nil, or_false] at h
  rcases h with rfl
  · exact sv0 G D, trivial⟩⟩⟩
noncomputable def M77 : TT (SV × SP) := evFnD (cfgT F (fun _ => none) hpE T77) 2000 85 (patAs 0 [(false, [(.lit (.int .u32 (.lit 5243027)))])]) ⟨hpE, []⟩
def spc77 : PC := []
def r77_0c0 : RT := (.leaf (.tuple [(.agg [(.int .i64 (.lit 19)), (.int .i64 (.lit 1)), (.int .i64 (.lit 0)), (.int .i64 (.lit 0)), (.int .i64 (.lit 0)), (.int .u32 (.lit 5)), (.bool (.lit false)), (.bool (.lit false))]), (.bool (.lit true))]))
theorem r77_0k0 : r77_0c0.ok 0 M77 spc77 = true := by kernel_rfl
def sm77 : Sm := ⟨[(false, [(.lit (.int .u32 (.lit 5243027)))])], false, r77_0c0⟩
theorem sv77 (G : Nat → Option Nat) (D : Hp) : SmValid Tryz.prog (GofSm G sm77) (DofSm D sm77) 85 sm77 := smValid0 (T := T77) (fuel := 2000) mixed hF (VT77 _ _) rfl r77_0k0
def T78 : List (Nat × List Sm) := [(85, [sm70, sm71, sm72, sm73, sm74, sm75, sm76, sm77]), (120, [sm1, sm2, sm3, sm4, sm5, sm6, sm7, sm8, sm9, sm10, sm11, sm12, sm13, sm14, sm15, sm16, sm17, sm18, sm19, sm20, sm21, sm22, sm23, sm24, sm25, sm26, sm27, sm28, sm29, sm30, sm31, sm32, sm33, sm34, sm35, sm36, sm37, sm38, sm39, sm40, sm41, sm42, sm43, sm44, sm45, sm46, sm47, sm48, sm49, sm50, sm51, sm52, sm53, sm54, sm55, sm56, sm57, sm58, sm59, sm60, sm61, sm62, sm63, sm64, sm65, sm66, sm67, sm68, sm69]), (151, [sm0])]
theorem VT78 (G : Nat → Option Nat) (D : Hp) : AllV Tryz.prog G D T78 := ⟨fun sm h => by
  simp only [List.mem_cons, List.not_mem_nil, or_false] at h
  rcases h with rfl | rfl | rfl | rfl | rfl | rfl | rfl | rfl
  · exact sv70 G D
  · exact sv71 G D
  · exact sv72 G D
  · exact sv73 G D
  · exact sv74 G D
  · exact sv75 G D
  · exact sv76 G D
  · exact sv77 G D, ⟨fun sm h => by
  simp only [List.mem_cons, List.not_mem_nil, or_false] at h
  rcases h with rfl | rfl | rfl | rfl | rfl | rfl | rfl | rfl | rfl | rfl | rfl | rfl | rfl | rfl | rfl | rfl | rfl | rfl | rfl | rfl | rfl | rfl | rfl | rfl | rfl | rfl | rfl | rfl | rfl | rfl | rfl | rfl | rfl | rfl | rfl | rfl | rfl | rfl | rfl | rfl | rfl | rfl | rfl | rfl | rfl | rfl | rfl | rfl | rfl | rfl | rfl | rfl | rfl | rfl | rfl | rfl | rfl | rfl | rfl | rfl | rfl | rfl | rfl | rfl | rfl | rfl | rfl | rfl | rfl
  · exact sv1 G D
  · exact sv2 G D
  · exact sv3 G D
  · exact sv4 G D
  · exact sv5 G D
  · exact sv6 G D
  · exact sv7 G D
  · exact sv8 G D
  · exact sv9 G D
  · exact sv10 G D
  · exact sv11 G D
  · exact sv12 G D
  · exact sv13 G D
  · exact sv14 G D
  · exact sv15 G D
  · exact sv16 G D
  · exact sv17 G D
  · exact sv18 G D
  · exact sv19 G D
  · exact sv20 G D
  · exact sv21 G D
  · exact sv22 G D
  · exact sv23 G D
  · exact sv24 G D
  · exact sv25 G D
  · exact sv26 G D
  · exact sv27 G D
  · exact sv28 G D
  · exact sv29 G D
  · exact sv30 G D
  · exact sv31 G D
  · exact sv32 G D
  · exact sv33 G D
  · exact sv34 G D
  · exact sv35 G D
  · exact sv36 G D
  · exact sv37 G D
  · exact sv38 G D
  · exact sv39 G D
  · exact sv40 G D
  · exact sv41 G D
  · exact sv42 G D
  · exact sv43 G D
  · exact sv44 G D
  · exact sv45 G D
  · exact sv46 G D
  · exact sv47 G D
  · exact sv48 G D
  · exact sv49 G D
  · exact sv50 G D
  · exact sv51 G D
  · exact sv52 G D
  · exact sv53 G D
  · exact sv54 G D
  · exact sv55 G D
  · exact sv56 G D
  · exact sv57 G D
  · exact sv58 G D
  · exact sv59 G D
  · exact sv60 G D
  · exact sv61 G D
  · exact sv62 G D
  · exact sv63 G D
  · exact sv64 G D
  · exact sv65 G D
  · exact sv66 G D
  · exact sv67 G D
  · exact sv68 G D
  · exact sv69 G D, ⟨fun sm h => by
  simp only [List.mem_cons, List.not_mem_nil, or_false] at h
  rcases h with rfl
  · exact sv0 G D, trivial⟩⟩⟩
noncomputable def M78 : TT (SV × SP) := evFnD (cfgT F (fun _ => none) hpE T78) 2000 85 (patAs 0 [(false, [(.lit (.int .u32 (.lit 35713459)))])]) ⟨hpE, []⟩
def spc78 : PC := []
def r78_0c0 : RT := (.leaf (.tuple [(.agg [(.int .i64 (.lit 58)), (.int .i64 (.lit 3)), (.int .i64 (.lit 1)), (.int .i64 (.lit 2)), (.int .i64 (.lit 0)), (.int .u32 (.lit 0)), (.bool (.lit false)), (.bool (.lit false))]), (.bool (.lit true))]))
theorem r78_0k0 : r78_0c0.ok 0 M78 spc78 = true := by kernel_rfl
def sm78 : Sm := ⟨[(false, [(.lit (.int .u32 (.lit 35713459)))])], false, r78_0c0⟩
theorem sv78 (G : Nat → Option Nat) (D : Hp) : SmValid Tryz.prog (GofSm G sm78) (DofSm D sm78) 85 sm78 := smValid0 (T := T78) (fuel := 2000) mixed hF (VT78 _ _) rfl r78_0k0
def T79 : List (Nat × List Sm) := [(85, [sm70, sm71, sm72, sm73, sm74, sm75, sm76, sm77, sm78]), (120, [sm1, sm2, sm3, sm4, sm5, sm6, sm7, sm8, sm9, sm10, sm11, sm12, sm13, sm14, sm15, sm16, sm17, sm18, sm19, sm20, sm21, sm22, sm23, sm24, sm25, sm26, sm27, sm28, sm29, sm30, sm31, sm32, sm33, sm34, sm35, sm36, sm37, sm38, sm39, sm40, sm41, sm42, sm43, sm44, sm45, sm46, sm47, sm48, sm49, sm50, sm51, sm52, sm53, sm54, sm55, sm56, sm57, sm58, sm59, sm60, sm61, sm62, sm63, sm64, sm65, sm66, sm67, sm68, sm69]), (151, [sm0])]
theorem VT79 (G : Nat → Option Nat) (D : Hp) : AllV Tryz.prog G D T79 := ⟨fun sm h => by
  simp only [List.mem_cons, List.not_mem_nil, or_false] at h
  rcases h with rfl | rfl | rfl | rfl | rfl | rfl | rfl | rfl | rfl
  · exact sv70 G D
  · exact sv71 G D
  · exact sv72 G D
  · exact sv73 G D
  · exact sv74 G D
  · exact sv75 G D
  · exact sv76 G D
  · exact sv77 G D
  · exact sv78 G D, ⟨fun sm h => by
  simp only [List.mem_cons, List.not_mem_nil, or_false] at h
  rcases h with rfl | rfl | rfl | rfl | rfl | rfl | rfl | rfl | rfl | rfl | rfl | rfl | rfl | rfl | rfl | rfl | rfl | rfl | rfl | rfl | rfl | rfl | rfl | rfl | rfl | rfl | rfl | rfl | rfl | rfl | rfl | rfl | rfl | rfl | rfl | rfl | rfl | rfl | rfl | rfl | rfl | rfl | rfl | rfl | rfl | rfl | rfl | rfl | rfl | rfl | rfl | rfl | rfl | rfl | rfl | rfl | rfl | rfl | rfl | rfl | rfl | rfl | rfl | rfl | rfl | rfl | rfl | rfl | rfl
  · exact sv1 G D
  · exact sv2 G D
  · exact sv3 G D
  · exact sv4 G D
  · exact sv5 G D
  · exact sv6 G D
  · exact sv7 G D
  · exact sv8 G D
  · exact sv9 G D
  · exact sv10 G D
  · exact sv11 G D
  · exact sv12 G D
  · exact sv13 G D
  · exact sv14 G D
  · exact sv15 G D
  · exact sv16 G D
  · exact sv17 G D
  · exact sv18 G D
  · exact sv19 G D
  · exact sv20 G D
  · exact sv21 G D
  · exact sv22 G D
  · exact sv23 G D
  · exact sv24 G D
  · exact sv25 G D
  · exact sv26 G D
  · exact sv27 G D
  · exact sv28 G D
  · exact sv29 G D
  · exact sv30 G D
  · exact sv31 G D
  · exact sv32 G D
  · exact sv33 G D
  · exact sv34 G D
  · exact sv35 G D
  · exact sv36 G D
  · exact sv37 G D
  · exact sv38 G D
  · exact sv39 G D
  · exact sv40 G D
  · exact sv41 G D
  · exact sv42 G D
  · exact sv43 G D
  · exact sv44 G D
  · exact sv45 G D
  · exact sv46 G D
  · exact sv47 G D
  · exact sv48 G D
  · exact sv49 G D
  · exact sv50 G D
  · exact sv51 G D
  · exact sv52 G D
  · exact sv53 G D
  · exact sv54 G D
  · exact sv55 G D
  · exact sv56 G D
  · exact sv57 G D
  · exact sv58 G D
  · exact sv59 G D
  · exact sv60 G D
  · exact sv61 G D
  · exact sv62 G D
  · exact sv63 G D
  · exact sv64 G D
  · exact sv65 G D
  · exact sv66 G D
  · exact sv67 G D
  · exact sv68 G D
  · exact sv69 G D, ⟨fun sm h => by
  simp only [List.mem_cons, List.not_mem_nil, or_false] at h
  rcases h with rfl
  · exact sv0 G D, trivial⟩⟩⟩
noncomputable def M79 : TT (SV × SP) := evFnD (cfgT F (fun _ => none) hpE T79) 2000 85 (patAs 0 [(false, [(.lit (.int .u32 (.lit 35709363)))])]) ⟨hpE, []⟩
def spc79 : PC := []
def r79_0c0 : RT := (.leaf (.tuple [(.agg [(.int .i64 (.lit 57)), (.int .i64 (.lit 3)), (.int .i64 (.lit 1)), (.int .i64 (.lit 2)), (.int .i64 (.lit 0)), (.int .u32 (.lit 0)), (.bool (.lit false)), (.bool (.lit false))]), (.bool (.lit true))]))
theorem r79_0k0 : r79_0c0.ok 0 M79 spc79 = true := by kernel_rfl
def sm79 : Sm := ⟨[(false, [(.lit (.int .u32 (.lit 35709363)))])], false, r79_0c0⟩
theorem sv79 (G : Nat → Option Nat) (D : Hp) : SmValid Tryz.prog (GofSm G sm79) (DofSm D sm79) 85 sm79 := smValid0 (T := T79) (fuel := 2000) mixed hF (VT79 _ _) rfl r79_0k0
def T80 : List (Nat × List Sm) := [(85, [sm70, sm71, sm72, sm73, sm74, sm75, sm76, sm77, sm78, sm79]), (120, [sm1, sm2, sm3, sm4, sm5, sm6, sm7, sm8, sm9, sm10, sm11, sm12, sm13, sm14, sm15, sm16, sm17, sm18, sm19, sm20, sm21, sm22, sm23, sm24, sm25, sm26, sm27, sm28, sm29, sm30, sm31, sm32, sm33, sm34, sm35, sm36, sm37, sm38, sm39, sm40, sm41, sm42, sm43, sm44, sm45, sm46, sm47, sm48, sm49, sm50, sm51, sm52, sm53, sm54, sm55, sm56, sm57, sm58, sm59, sm60, sm61, sm62, sm63, sm64, sm65, sm66, sm67, sm68, sm69]), (151, [sm0])]
theorem VT80 (G : Nat → Option Nat) (D : Hp) : AllV Tryz.prog G D T80 := ⟨fun sm h => by
  simp only [List.mem_cons, List.not_mem_nil, or_false] at h
  rcases h with rfl | rfl | rfl | rfl | rfl | rfl | rfl | rfl | rfl | rfl
  · exact sv70 G D
  · exact sv71 G D
  · exact sv72 G D
  · exact sv73 G D
  · exact sv74 G D
  · exact sv75 G D
  · exact sv76 G D
  · exact sv77 G D
  · exact sv78 G D
  · exact sv79 G D, ⟨fun sm h => by
  simp only [List.mem_cons, List.not_mem_nil, or_false] at h
  rcases h with rfl | rfl | rfl | rfl | rfl | rfl | rfl | rfl | rfl | rfl | rfl | rfl | rfl | rfl | rfl | rfl | rfl | rfl | rfl | rfl | rfl | rfl | rfl | rfl | rfl | rfl | rfl | rfl | rfl | rfl | rfl | rfl | rfl | rfl | rfl | rfl | rfl | rfl | rfl | rfl | rfl | rfl | rfl | rfl | rfl | rfl | rfl | rfl | rfl | rfl | rfl | rfl | rfl | rfl | rfl | rfl | rfl | rfl | rfl | rfl | rfl | rfl | rfl | rfl | rfl | rfl | rfl | rfl | rfl
  · exact sv1 G D
  · exact sv2 G D
  · exact sv3 G D
  · exact sv4 G D
  · exact sv5 G D
  · exact sv6 G D
  · exact sv7 G D
  · exact sv8 G D
  · exact sv9 G D
  · exact sv10 G D
  · exact sv11 G D
  · exact sv12 G D
  · exact sv13 G D
  · exact sv14 G D
  · exact sv15 G D
  · exact sv16 G D
  · exact sv17 G D
  · exact sv18 G D
  · exact sv19 G D
  · exact sv20 G D
  · exact sv21 G D
  · exact sv22 G D
  · exact sv23 G D
  · exact sv24 G D
  · exact sv25 G D
  · exact sv26 G D
  · exact sv27 G D
  · exact sv28 G D
  · exact sv29 G D
  · exact sv30 G D
  · exact sv31 G D
  · exact sv32 G D
  · exact sv33 G D
  · exact sv34 G D
  · exact sv35 G D
  · exact sv36 G D
  · exact sv37 G D
  · exact sv38 G D
  · exact sv39 G D
  · exact sv40 G D
  · exact sv41 G D
  · exact sv42 G D
  · exact sv43 G D
  · exact sv44 G D
  · exact sv45 G D
  · exact sv46 G D
  · exact sv47 G D
  · exact sv48 G D
  · exact sv49 G D
  · exact sv50 G D
  · exact sv51 G D
  · exact sv52 G D
  · exact sv53 G D
  · exact sv54 G D
  · exact sv55 G D
  · exact sv56 G D
  · exact sv57 G D
  · exact sv58 G D
  · exact sv59 G D
  · exact sv60 G D
  · exact sv61 G D
  · exact sv62 G D
  · exact sv63 G D
  · exact sv64 G D
  · exact sv65 G D
  · exact sv66 G D
  · exact sv67 G D
  · exact sv68 G D
  · exact sv69 G D, ⟨fun sm h => by
  simp only [List.mem_cons, List.not_mem_nil, or_false] at h
  rcases h with rfl
  · exact sv0 G D, trivial⟩⟩⟩
noncomputable def M80 : TT (SV × SP) := evFnD (cfgT F (fun _ => none) hpE T80) 2000 85 (patAs 0 [(false, [(.lit (.int .u32 (.lit 35705267)))])]) ⟨hpE, []⟩
def spc80 : PC := []
def r80_0c0 : RT := (.leaf (.tuple [(.agg [(.int .i64 (.lit 56)), (.int .i64 (.lit 3)), (.int .i64 (.lit 1)), (.int .i64 (.lit 2)), (.int .i64 (.lit 0)), (.int .u32 (.lit 0)), (.bool (.lit false)), (.bool (.lit false))]), (.bool (.lit true))]))
theorem r80_0k0 : r80_0c0.ok 0 M80 spc80 = true := by kernel_rfl
def sm80 : Sm := ⟨[(false, [(.lit (.int .u32 (.lit 35705267)))])], false, r80_0c0⟩
theorem sv80 (G : Nat → Option Nat) (D : Hp) : SmValid Tryz.prog (GofSm G sm80) (DofSm D sm80) 85 sm80 := smValid0 (T := T80) (fuel := 2000) mixed hF (VT80 _ _) rfl r80_0k0
def T81 : List (Nat × List Sm) := [(85, [sm70, sm71, sm72, sm73, sm74, sm75, sm76, sm77, sm78, sm79, sm80]), (120, [sm1, sm2, sm3, sm4, sm5, sm6, sm7, sm8, sm9, sm10, sm11, sm12, sm13, sm14, sm15, sm16, sm17, sm18, sm19, sm20, sm21, sm22, sm23, sm24, sm25, sm26, sm27, sm28, sm29, sm30, sm31, sm32, sm33, sm34, sm35, sm36, sm37, sm38, sm39, sm40, sm41, sm42, sm43, sm44, sm45, sm46, sm47, sm48, sm49, sm50, sm51, sm52, sm53, sm54, sm55, sm56, sm57, sm58, sm59, sm60, sm61, sm62, sm63, sm64, sm65, sm66, sm67, sm68, sm69]), (151, [sm0])]
theorem VT81 (G : Nat → Option Nat) (D : Hp) : AllV Tryz.prog G D T81 := ⟨fun sm h => by
  simp only [List.mem_cons, List.not_mem_nil, or_false] at h
  rcases h with rfl | rfl | rfl | rfl | rfl | rfl | rfl | rfl | rfl | rfl | rfl
  · exact sv70 G D
  · exact sv71 G D
  · exact sv72 G D
  · exact sv73 G D
  · exact sv74 G D
  · exact sv75 G D
  · exact sv76 G D
  · exact sv77 G D
  · exact sv78 G D
  · exact sv79 G D
  · exact sv80 G D, ⟨fun sm h => by
  simp only [List.mem_cons, List.not_mem_nil, or_false] at h
  rcases h with rfl | rfl | rfl | rfl | rfl | rfl | rfl | rfl | rfl | rfl | rfl | rfl | rfl | rfl | rfl | rfl | rfl | rfl | rfl | rfl | rfl | rfl | rfl | rfl | rfl | rfl | rfl | rfl | rfl | rfl | rfl | rfl | rfl | rfl | rfl | rfl | rfl | rfl | rfl | rfl | rfl | rfl | rfl | rfl | rfl | rfl | rfl | rfl | rfl | rfl | rfl | rfl | rfl | rfl | rfl | rfl | rfl | rfl | rfl | rfl | rfl | rfl | rfl | rfl | rfl | rfl | rfl | rfl | rfl
  · exact sv1 G D
  · exact sv2 G D
  · exact sv3 G D
  · exact sv4 G D
  · exact sv5 G D
  · exact sv6 G D
  · exact sv7 G D
  · exact sv8 G D
  · exact sv9 G D
  · exact sv10 G D
  · exact sv11 G D
  · exact sv12 G D
  · exact sv13 G D
  · exact sv14 G D
  · exact sv15 G D
  · exact sv16 G D
  · exact sv17 G D
  · exact sv18 G D
  · exact sv19 G D
  · exact sv20 G D
  · exact sv21 G D
  · exact sv22 G D
  · exact sv23 G D
  · exact sv24 G D
  · exact sv25 G D
  · exact sv26 G D
  · exact sv27 G D
  · exact sv28 G D
  · exact sv29 G D
  · exact sv30 G D
  · exact sv31 G D
  · exact sv32 G D
  · exact sv33 G D
  · exact sv34 G D
  · exact sv35 G D
  · exact sv36 G D
  · exact sv37 G D
  · exact sv38 G D
  · exact sv39 G D
  · exact sv40 G D
  · exact sv41 G D
  · exact sv42 G D
  · exact sv43 G D
  · exact sv44 G D
  · exact sv45 G D
  · exact sv46 G D
  · exact sv47 G D
  · exact sv48 G D
  · exact sv49 G D
  · exact sv50 G D
  · exact sv51 G D
  · exact sv52 G D
  · exact sv53 G D
  · exact sv54 G D
  · exact sv55 G D
  · exact sv56 G D
  · exact sv57 G D
  · exact sv58 G D
  · exact sv59 G D
  · exact sv60 G D
  · exact sv61 G D
  · exact sv62 G D
  · exact sv63 G D
  · exact sv64 G D
  · exact sv65 G D
  · exact sv66 G D
  · exact sv67 G D
  · exact sv68 G D
  · exact sv69 G D, ⟨fun sm h => by
  simp only [List.mem_cons, List.not_mem_nil, or_false] at h
  rcases h with rfl
  · exact sv0 G D, trivial⟩⟩⟩
noncomputable def M81 : TT (SV × SP) := evFnD (cfgT F (fun _ => none) hpE T81) 2000 85 (patAs 0 [(false, [(.lit (.int .u32 (.lit 35701171)))])]) ⟨hpE, []⟩
def spc81 : PC := []
def r81_0c0 : RT := (.leaf (.tuple [(.agg [(.int .i64 (.lit 55)), (.int .i64 (.lit 3)), (.int .i64 (.lit 1)), (.int .i64 (.lit 2)), (.int .i64 (.lit 0)), (.int .u32 (.lit 0)), (.bool (.lit false)), (.bool (.lit false))]), (.bool (.lit true))]))
theorem r81_0k0 : r81_0c0.ok 0 M81 spc81 = true := by kernel_rfl
def sm81 : Sm := ⟨[(false, [(.lit (.int .u32 (.lit 35701171)))])], false, r81_0c0⟩
theorem sv81 (G : Nat → Option Nat) (D : Hp) : SmValid Tryz.prog (GofSm G sm81) (DofSm D sm81) 85 sm81 := smValid0 (T := T81) (fuel := 2000) mixed hF (VT81 _ _) rfl r81_0k0
def T82 : List (Nat × List Sm) := [(85, [sm70, sm71, sm72, sm73, sm74, sm75, sm76, sm77, sm78, sm79, sm80, sm81]), (120, [sm1, sm2, sm3, sm4, sm5, sm6, sm7, sm8, sm9, sm10, sm11, sm12, sm13, sm14, sm15, sm16, sm17, sm18, sm19, sm20, sm21, sm22, sm23, sm24, sm25, sm26, sm27, sm28, sm29, sm30, sm31, sm32, sm33, sm34, sm35, sm36, sm37, sm38, sm39, sm40, sm41, sm42, sm43, sm44, sm45, sm46, sm47, sm48, sm49, sm50, sm51, sm52, sm53, sm54, sm55, sm56, sm57, sm58, sm59, sm60, sm61, sm62, sm63, sm64, sm65, sm66, sm67, sm68, sm69]), (151, [sm0])]
theorem VT82 (G : Nat → Option Nat) (D : Hp) : AllV Tryz.prog G D T82 := ⟨fun sm h => by
  simp only [List.mem_cons, List.not_mem_nil, or_false] at h
  rcases h with rfl | rfl | rfl | rfl | rfl | rfl | rfl | rfl | rfl | rfl | rfl | rfl
  · exact sv70 G D
  · exact sv71 G D
  · exact sv72 G D
  · exact sv73 G D
  · exact sv74 G D
  · exact sv75 G D
  · exact sv76 G D
  · exact sv77 G D
  · exact sv78 G D
  · exact sv79 G D
  · exact sv80 G D
  · exact sv81 G D, ⟨fun sm h => by
  simp only [List.mem_cons, List.not_mem_nil, or_false] at h
  rcases h with rfl | rfl | rfl | rfl | rfl | rfl | rfl | rfl | rfl | rfl | rfl | rfl | rfl | rfl | rfl | rfl | rfl | rfl | rfl | rfl | rfl | rfl | rfl | rfl | rfl | rfl | rfl | rfl | rfl | rfl | rfl | rfl | rfl | rfl | rfl | rfl | rfl | rfl | rfl | rfl | rfl | rfl | rfl | rfl | rfl | rfl | rfl | rfl | rfl | rfl | rfl | rfl | rfl | rfl | rfl | rfl | rfl | rfl | rfl | rfl | rfl | rfl | rfl | rfl | rfl | rfl | rfl | rfl | rfl
  · exact sv1 G D
  · exact sv2 G D
  · exact sv3 G D
  · exact sv4 G D
  · exact sv5 G D
  · exact sv6 G D
  · exact sv7 G D
  · exact sv8 G D
  · exact sv9 G D
  · exact sv10 G D
  · exact sv11 G D
  · exact sv12 G D
  · exact sv13 G D
  · exact sv14 G D
  · exact sv15 G D
  · exact sv16 G D
  · exact sv17 G D
  · exact sv18 G D
  · exact sv19 G D
  · exact sv20 G D
  · exact sv21 G D
  · exact sv22 G D
  · exact sv23 G D
  · exact sv24 G D
  · exact sv25 G D
  · exact sv26 G D
  · exact sv27 G D
  · exact sv28 G D
  · exact sv29 G D
  · exact sv30 G D
  · exact sv31 G D
  · exact sv32 G D
  · exact sv33 G D
  · exact sv34 G D
  · exact sv35 G D
  · exact sv36 G D
  · exact sv37 G D
  · exact sv38 G D
  · exact sv39 G D
  · exact sv40 G D
  · exact sv41 G D
  · exact sv42 G D
  · exact sv43 G D
  · exact sv44 G D
  · exact sv45 G D
  · exact sv46 G D
  · exact sv47 G D
  · exact sv48 G D
  · exact sv49 G D
  · exact sv50 G D
  · exact sv51 G D
  · exact sv52 G D
  · exact sv53 G D
  · exact sv54 G D
  · exact sv55 G D
  · exact sv56 G D
  · exact sv57 G D
  · exact sv58 G D
  · exact sv59 G D
  · exact sv60 G D
  · exact sv61 G D
  · exact sv62 G D
  · exact sv63 G D
  · exact sv64 G D
  · exact sv65 G D
  · exact sv66 G D
  · exact sv67 G D
  · exact sv68 G D
  · exact sv69 G D, ⟨fun sm h => by
  simp only [List.mem_cons, List.not_mem_nil, or_false] at h
  rcases h with rfl
  · exact sv0 G D, trivial⟩⟩⟩
noncomputable def M82 : TT (SV × SP) := evFnD (cfgT F (fun _ => none) hpE T82) 2000 85 (patAs 0 [(false, [(.lit (.int .u32 (.lit 35697075)))])]) ⟨hpE, []⟩
def spc82 : PC := []
def r82_0c0 : RT := (.leaf (.tuple [(.agg [(.int .i64 (.lit 54)), (.int .i64 (.lit 3)), (.int .i64 (.lit 1)), (.int .i64 (.lit 2)), (.int .i64 (.lit 0)), (.int .u32 (.lit 0)), (.bool (.lit false)), (.bool (.lit false))]), (.bool (.lit true))]))
theorem r82_0k0 : r82_0c0.ok 0 M82 spc82 = true := by kernel_rfl
def sm82 : Sm := ⟨[(false, [(.lit (.int .u32 (.lit 35697075)))])], false, r82_0c0⟩
theorem sv82 (G : Nat → Option Nat) (D : Hp) : SmValid Tryz.prog (GofSm G sm82) (DofSm D sm82) 85 sm82 := smValid0 (T := T82) (fuel := 2000) mixed hF (VT82 _ _) rfl r82_0k0
def T83 : List (Nat × List Sm) := [(85, [sm70, sm71, sm72, sm73, sm74, sm75, sm76, sm77, sm78, sm79, sm80, sm81, sm82]), (120, [sm1, sm2, sm3, sm4, sm5, sm6, sm7, sm8, sm9, sm10, sm11, sm12, sm13, sm14, sm15, sm16, sm17, sm18, sm19, sm20, sm21, sm22, sm23, sm24, sm25, sm26, sm27, sm28, sm29, sm30, sm31, sm32, sm33, sm34, sm35, sm36, sm37, sm38, sm39, sm40, sm41, sm42, sm43, sm44, sm45, sm46, sm47, sm48, sm49, sm50, sm51, sm52, sm53, sm54, sm55, sm56, sm57, sm58, sm59, sm60, sm61, sm62, sm63, sm64, sm65, sm66, sm67, sm68, sm69]), (151, [sm0])]
theorem VT83 (G : Nat → Option Nat) (D : Hp) : AllV Tryz.prog G D T83 := ⟨fun sm h => by
  simp only [List.mem_cons, List.not_mem_nil, or_false] at h
  rcases h with rfl | rfl | rfl | rfl | rfl | rfl | rfl | rfl | rfl | rfl | rfl | rfl | rfl
  · exact sv70 G D
  · exact sv71 G D
  · exact sv72 G D
  · exact sv73 G D
  · exact sv74 G D
  · exact sv75 G D
  · exact sv76 G D
  · exact sv77 G D
  · exact sv78 G D
  · exact sv79 G D
  · exact sv80 G D
  · exact sv81 G D
  · exact sv82 G D, ⟨fun sm h => by
  simp only [List.mem_cons, List.not_mem_nil, or_false] at h
  rcases h with rfl | rfl | rfl | rfl | rfl | rfl | rfl | rfl | rfl | rfl | rfl | rfl | rfl | rfl | rfl | rfl | rfl | rfl | rfl | rfl | rfl | rfl | rfl | rfl | rfl | rfl | rfl | rfl | rfl | rfl | rfl | rfl | rfl | rfl | rfl | rfl | rfl | rfl | rfl | rfl | rfl | rfl | rfl | rfl | rfl | rfl | rfl | rfl | rfl | rfl | rfl | rfl | rfl | rfl | rfl | rfl | rfl | rfl | rfl | rfl | rfl | rfl | rfl | rfl | rfl | rfl | rfl | rfl | rfl
  · exact sv1 G D
  · exact sv2 G D
  · exact sv3 G D
  · exact sv4 G D
  · exact sv5 G D
  · exact sv6 G D
  · exact sv7 G D
  · exact sv8 G D
  · exact sv9 G D
  · exact sv10 G D
  · exact sv11 G D
  · exact sv12 G D
  · exact sv13 G D
  · exact sv14 G D
  · exact sv15 G D
  · exact sv16 G D
  · exact sv17 G D
  · exact sv18 G D
  · exact sv19 G D
  · exact sv20 G D
  · exact sv21 G D
  · exact sv22 G D
  · exact sv23 G D
  · exact sv24 G D
  · exact sv25 G D
  · exact sv26 G D
  · exact sv27 G D
  · exact sv28 G D
  · exact sv29 G D
  · exact sv30 G D
  · exact sv31 G D
  · exact sv32 G D
  · exact sv33 G D
  · exact sv34 G D
  · exact sv35 G D
  · exact sv36 G D
  · exact sv37 G D
  · exact sv38 G D
  · exact sv39 G D
  · exact sv40 G D
  · exact sv41 G D
  · exact sv42 G D
  · exact sv43 G D
  · exact sv44 G D
  · exact sv45 G D
  · exact sv46 G D
  · exact sv47 G D
  · exact sv48 G D
  · exact sv49 G D
  · exact sv50 G D
  · exact sv51 G D
  · exact sv52 G D
  · exact sv53 G D
  · exact sv54 G D
  · exact sv55 G D
  · exact sv56 G D
  · exact sv57 G D
  · exact sv58 G D
  · exact sv59 G D
  · exact sv60 G D
  · exact sv61 G D
  · exact sv62 G D
  · exact sv63 G D
  · exact sv64 G D
  · exact sv65 G D
  · exact sv66 G D
  · exact sv67 G D
  · exact sv68 G D
  · exact sv69 G D, ⟨fun sm h => by
  simp only [List.mem_cons, List.not_mem_nil, or_false] at h
  rcases h with rfl
  · exact sv0 G D, trivial⟩⟩⟩
noncomputable def M83 : TT (SV × SP) := evFnD (cfgT F (fun _ => none) hpE T83) 2000 85 (patAs 0 [(false, [(.lit (.int .u32 (.lit 35692979)))])]) ⟨hpE, []⟩
def spc83 : PC := []
def r83_0c0 : RT := (.leaf (.tuple [(.agg [(.int .i64 (.lit 53)), (.int .i64 (.lit 3)), (.int .i64 (.lit 1)), (.int .i64 (.lit 2)), (.int .i64 (.lit 0)), (.int .u32 (.lit 0)), (.bool (.lit false)), (.bool (.lit false))]), (.bool (.lit true))]))
theorem r83_0k0 : r83_0c0.ok 0 M83 spc83 = true := by kernel_rfl
def sm83 : Sm := ⟨[(false, [(.lit (.int .u32 (.lit 35692979)))])], false, r83_0c0⟩
theorem sv83 (G : Nat → Option Nat) (D : Hp) : SmValid Tryz.prog (GofSm G sm83) (DofSm D sm83) 85 sm83 := smValid0 (T := T83) (fuel := 2000) mixed hF (VT83 _ _) rfl r83_0k0
def T84 : List (Nat × List Sm) := [(85, [sm70, sm71, sm72, sm73, sm74, sm75, sm76, sm77, sm78, sm79, sm80, sm81, sm82, sm83]), (120, [sm1, sm2, sm3, sm4, sm5, sm6, sm7, sm8, sm9, sm10, sm11, sm12, sm13, sm14, sm15, sm16, sm17, sm18, sm19, sm20, sm21, sm22, sm23, sm24, sm25, sm26, sm27, sm28, sm29, sm30, sm31, sm32, sm33, sm34, sm35, sm36, sm37, sm38, sm39, sm40, sm41, sm42, sm43, sm44, sm45, sm46, sm47, sm48, sm49, sm50, sm51, sm52, sm53, sm54, sm55, sm56, sm57, sm58, sm59, sm60, sm61, sm62, sm63, sm64, sm65, sm66, sm67, sm68, sm69]), (151, [sm0])]
theorem VT84 (G : Nat → Option Nat) (D : Hp) : AllV Tryz.prog G D T84 := ⟨fun sm h => by
  simp only [List.mem_cons, List.not_mem_nil, or_false] at h
  rcases h with rfl | rfl | rfl | rfl | rfl | rfl | rfl | rfl | rfl | rfl | rfl | rfl | rfl | rfl
  · exact sv70 G D
  · exact sv71 G D
  · exact sv72 G D
  · exact sv73 G D
  · exact sv74 G D
  · exact sv75 G D
  · exact sv76 G D
  · exact sv77 G D
  · exact sv78 G D
  · exact sv79 G D
  · exact sv80 G D
  · exact sv81 G D
  · exact sv82 G D
  · exact sv83 G D, ⟨fun sm h => by
  simp only [List.mem_cons, List.not_mem_nil, or_false] at h
  rcases h with rfl | rfl | rfl | rfl | rfl | rfl | rfl | rfl | rfl | rfl | rfl | rfl | rfl | rfl | rfl | rfl | rfl | rfl | rfl | rfl | rfl | rfl | rfl | rfl | rfl | rfl | rfl | rfl | rfl | rfl | rfl | rfl | rfl | rfl | rfl | rfl | rfl | rfl | rfl | rfl | rfl | rfl | rfl | rfl | rfl | rfl | rfl | rfl | rfl | rfl | rfl | rfl | rfl | rfl | rfl | rfl | rfl | rfl | rfl | rfl | rfl | rfl | rfl | rfl | rfl | rfl | rfl | rfl | rfl
  · exact sv1 G D
  · exact sv2 G D
  · exact sv3 G D
  · exact sv4 G D
  · exact sv5 G D
  · exact sv6 G D
  · exact sv7 G D
  · exact sv8 G D
  · exact sv9 G D
  · exact sv10 G D
  · exact sv11 G D
  · exact sv12 G D
  · exact sv13 G D
  · exact sv14 G D
  · exact sv15 G D
  · exact sv16 G D
  · exact sv17 G D
  · exact sv18 G D
  · exact sv19 G D
  · exact sv20 G D
  · exact sv21 G D
  · exact sv22 G D
  · exact sv23 G D
  · exact sv24 G D
  · exact sv25 G D
  · exact sv26 G D
  · exact sv27 G D
  · exact sv28 G D
  · exact sv29 G D
  · exact sv30 G D
  · exact sv31 G D
  · exact sv32 G D
  · exact sv33 G D
  · exact sv34 G D
  · exact sv35 G D
  · exact sv36 G D
  · exact sv37 G D
  · exact sv38 G D
  · exact sv39 G D
  · exact sv40 G D
  · exact sv41 G D
  · exact sv42 G D
  · exact sv43 G D
  · exact sv44 G D
  · exact sv45 G D
  · exact sv46 G D
  · exact sv47 G D
  · exact sv48 G D
  · exact sv49 G D
  · exact sv50 G D
  · exact sv51 G D
  · exact sv52 G D
  · exact sv53 G D
  · exact sv54 G D
  · exact sv55 G D
  · exact sv56 G D
  · exact sv57 G D
  · exact sv58 G D
  · exact sv59 G D
  · exact sv60 G D
  · exact sv61 G D
  · exact sv62 G D
  · exact sv63 G D
  · exact sv64 G D
  · exact sv65 G D
  · exact sv66 G D
  · exact sv67 G D
  · exact sv68 G D
  · exact sv69 G D, ⟨fun sm h => by
  simp only [List.mem_cons, List.not_mem_nil, or_false] at h
  rcases h with rfl
  · exact sv0 G D, trivial⟩⟩⟩
noncomputable def M84 : TT (SV × SP) := evFnD (cfgT F (fun _ => none) hpE T84) 2000 85 (patAs 0 [(false, [(.lit (.int .u32 (.lit 35688883)))])]) ⟨hpE, []⟩
def spc84 : PC := []
def r84_0c0 : RT := (.leaf (.tuple [(.agg [(.int .i64 (.lit 52)), (.int .i64 (.lit 3)), (.int .i64 (.lit 1)), (.int .i64 (.lit 2)), (.int .i64 (.lit 0)), (.int .u32 (.lit 0)), (.bool (.lit false)), (.bool (.lit false))]), (.bool (.lit true))]))
theorem r84_0k0 : r84_0c0.ok 0 M84 spc84 = true := by kernel_rfl
def sm84 : Sm := ⟨[(false, [(.lit (.int .u32 (.lit 35688883)))])], false, r84_0c0⟩
theorem sv84 (G : Nat → Option Nat) (D : Hp) : SmValid Tryz.prog (GofSm G sm84) (DofSm D sm84) 85 sm84 := smValid0 (T := T84) (fuel := 2000) mixed hF (VT84 _ _) rfl r84_0k0
def T85 : List (Nat × List Sm) := [(85, [sm70, sm71, sm72, sm73, sm74, sm75, sm76, sm77, sm78, sm79, sm80, sm81, sm82, sm83, sm84]), (120, [sm1, sm2, sm3, sm4, sm5, sm6, sm7, sm8, sm9, sm10, sm11, sm12, sm13, sm14, sm15, sm16, sm17, sm18, sm19, sm20, sm21, sm22, sm23, sm24, sm25, sm26, sm27, sm28, sm29, sm30, sm31, sm32, sm33, sm34, sm35, sm36, sm37, sm38, sm39, sm40, sm41, sm42, sm43, sm44, sm45, sm46, sm47, sm48, sm49, sm50, sm51, sm52, sm53, sm54, sm55, sm56, sm57, sm58, sm59, sm60, sm61, sm62, sm63, sm64, sm65, sm66, sm67, sm68, sm69]), (151, [sm0])]
theorem VT85 (G : Nat → Option Nat) (D : Hp) : AllV Tryz.prog G D T85 := ⟨fun sm h => by
  simp only [List.mem_cons, List.not_mem_nil, or_false] at h
  rcases h with rfl | rfl | rfl | rfl | rfl | rfl | rfl | rfl | rfl | rfl | rfl | rfl | rfl | rfl | rfl
  · exact sv70 G D
  · exact sv71 G D
  · exact sv72 G D
  · exact sv73 G D
  · exact sv74 G D
  · exact sv75 G D
  · exact sv76 G D
  · exact sv77 G D
  · exact sv78 G D
  · exact sv79 G D
  · exact sv80 G D
  · exact sv81 G D
  · exact sv82 G D
  · exact sv83 G D
  · exact sv84 G D, ⟨fun sm h => by
  simp only [List.mem_cons, List.not_mem_nil, or_false] at h
  rcases h with rfl | rfl | rfl | rfl | rfl | rfl | rfl | rfl | rfl | rfl | rfl | rfl | rfl | rfl | rfl | rfl | rfl | rfl | rfl | rfl | rfl | rfl | rfl | rfl | rfl | rfl | rfl | rfl | rfl | rfl | rfl | rfl | rfl | rfl | rfl | rfl | rfl | rfl | rfl | rfl | rfl | rfl | rfl | rfl | rfl | rfl | rfl | rfl | rfl | rfl | rfl | rfl | rfl | rfl | rfl | rfl | rfl | rfl | rfl | rfl | rfl | rfl | rfl | rfl | rfl | rfl | rfl | rfl | rfl
  · exact sv1 G D
  · exact sv2 G D
  · exact sv3 G D
  · exact sv4 G D
  · exact sv5 G D
  · exact sv6 G D
  · exact sv7 G D
  · exact sv8 G D
  · exact sv9 G D
  · exact sv10 G D
  · exact sv11 G D
  · exact sv12 G D
  · exact sv13 G D
  · exact sv14 G D
  · exact sv15 G D
  · exact sv16 G D
  · exact sv17 G D
  · exact sv18 G D
  · exact sv19 G D
  · exact sv20 G D
  · exact sv21 G D
  · exact sv22 G D
  · exact sv23 G D
  · exact sv24 G D
  · exact sv25 G D
  · exact sv26 G D
  · exact sv27 G D
  · exact sv28 G D
  · exact sv29 G D
  · exact sv30 G D
  · exact sv31 G D
  · exact sv32 G D
  · exact sv33 G D
  · exact sv34 G D
  · exact sv35 G D
  · exact sv36 G D
  · exact sv37 G D
  · exact sv38 G D
  · exact sv39 G D
  · exact sv40 G D
  · exact sv41 G D
  · exact sv42 G D
  · exact sv43 G D
  · exact sv44 G D
  · exact sv45 G D
  · exact sv46 G D
  · exact sv47 G D
  · exact sv48 G D
  · exact sv49 G D
  · exact sv50 G D
  · exact sv51 G D
  · exact sv52 G D
  · exact sv53 G D
  · exact sv54 G D
  · exact sv55 G D
  · exact sv56 G D
  · exact sv57 G D
  · exact sv58 G D
  · exact sv59 G D
  · exact sv60 G D
  · exact sv61 G D
  · exact sv62 G D
  · exact sv63 G D
  · exact sv64 G D
  · exact sv65 G D
  · exact sv66 G D
  · exact sv67 G D
  · exact sv68 G D
  · exact sv69 G D, ⟨fun sm h => by
  simp only [List.mem_cons, List.not_mem_nil, or_false] at h
  rcases h with rfl
  · exact sv0 G D, trivial⟩⟩⟩
noncomputable def M85 : TT (SV × SP) := evFnD (cfgT F (fun _ => none) hpE T85) 2000 85 (patAs 0 [(false, [(.lit (.int .u32 (.lit 35684787)))])]) ⟨hpE, []⟩
def spc85 : PC := []
def r85_0c0 : RT := (.leaf (.tuple [(.agg [(.int .i64 (.lit 51)), (.int .i64 (.lit 3)), (.int .i64 (.lit 1)), (.int .i64 (.lit 2)), (.int .i64 (.lit 0)), (.int .u32 (.lit 0)), (.bool (.lit false)), (.bool (.lit false))]), (.bool (.lit true))]))
theorem r85_0k0 : r85_0c0.ok 0 M85 spc85 = true := by kernel_rfl
def sm85 : Sm := ⟨[(false, [(.lit (.int .u32 (.lit 35684787)))])], false, r85_0c0⟩
theorem sv85 (G : Nat → Option Nat) (D : Hp) : SmValid Tryz.prog (GofSm G sm85) (DofSm D sm85) 85 sm85 := smValid0 (T := T85) (fuel := 2000) mixed hF (VT85 _ _) rfl r85_0k0
def T86 : List (Nat × List Sm) := [(85, [sm70, sm71, sm72, sm73, sm74, sm75, sm76, sm77, sm78, sm79, sm80, sm81, sm82, sm83, sm84, sm85]), (120, [sm1, sm2, sm3, sm4, sm5, sm6, sm7, sm8, sm9, sm10, sm11, sm12, sm13, sm14, sm15, sm16, sm17, sm18, sm19, sm20, sm21, sm22, sm23, sm24, sm25, sm26, sm27, sm28, sm29, sm30, sm31, sm32, sm33, sm34, sm35, sm36, sm37, sm38, sm39, sm40, sm41, sm42, sm43, sm44, sm45, sm46, sm47, sm48, sm49, sm50, sm51, sm52, sm53, sm54, sm55, sm56, sm57, sm58, sm59, sm60, sm61, sm62, sm63, sm64, sm65, sm66, sm67, sm68, sm69]), (151, [sm0])]
theorem VT86 (G : Nat → Option Nat) (D : Hp) : AllV Tryz.prog G D T86 := ⟨fun sm h => by
  simp only [List.mem_cons, List.not_mem_nil, or_false] at h
  rcases h with rfl | rfl | rfl | rfl | rfl | rfl | rfl | rfl | rfl | rfl | rfl | rfl | rfl | rfl | rfl | rfl
  · exact sv70 G D
  · exact sv71 G D
  · exact sv72 G D
  · exact sv73 G D
  · exact sv74 G D
  · exact sv75 G D
  · exact sv76 G D
  · exact sv77 G D
  · exact sv78 G D
  · exact sv79 G D
  · exact sv80 G D
  · exact sv81 G D
  · exact sv82 G D
  · exact sv83 G D
  · exact sv84 G D
  · exact sv85 G D, ⟨fun sm h => by
  simp only [List.mem_cons, List.not_mem_nil, or_false] at h
  rcases h with rfl | rfl | rfl | rfl | rfl | rfl | rfl | rfl | rfl | rfl | rfl | rfl | rfl | rfl | rfl | rfl | rfl | rfl | rfl | rfl | rfl | rfl | rfl | rfl | rfl | rfl | rfl | rfl | rfl | rfl | rfl | rfl | rfl | rfl | rfl | rfl | rfl | rfl | rfl | rfl | rfl | rfl | rfl | rfl | rfl | rfl | rfl | rfl | rfl | rfl | rfl | rfl | rfl | rfl | rfl | rfl | rfl | rfl | rfl | rfl | rfl | rfl | rfl | rfl | rfl | rfl | rfl | rfl | rfl
  · exact sv1 G D
  · exact sv2 G D
  · exact sv3 G D
  · exact sv4 G D
  · exact sv5 G D
  · exact sv6 G D
  · exact sv7 G D
  · exact sv8 G D
  · exact sv9 G D
  · exact sv10 G D
  · exact sv11 G D
  · exact sv12 G D
  · exact sv13 G D
  · exact sv14 G D
  · exact sv15 G D
  · exact sv16 G D
  · exact sv17 G D
  · exact sv18 G D
  · exact sv19 G D
  · exact sv20 G D
  · exact sv21 G D
  · exact sv22 G D
  · exact sv23 G D
  · exact sv24 G D
  · exact sv25 G D
  · exact sv26 G D
  · exact sv27 G D
  · exact sv28 G D
  · exact sv29 G D
  · exact sv30 G D
  · exact sv31 G D
  · exact sv32 G D
  · exact sv33 G D
  · exact sv34 G D
  · exact sv35 G D
  · exact sv36 G D
  · exact sv37 G D
  · exact sv38 G D
  · exact sv39 G D
  · exact sv40 G D
  · exact sv41 G D
  · exact sv42 G D
  · exact sv43 G D
  · exact sv44 G D
  · exact sv45 G D
  · exact sv46 G D
  · exact sv47 G D
  · exact sv48 G D
  · exact sv49 G D
  · exact sv50 G D
  · exact sv51 G D
  · exact sv52 G D
  · exact sv53 G D
  · exact sv54 G D
  · exact sv55 G D
  · exact sv56 G D
  · exact sv57 G D
  · exact sv58 G D
  · exact sv59 G D
  · exact sv60 G D
  · exact sv61 G D
  · exact sv62 G D
  · exact sv63 G D
  · exact sv64 G D
  · exact sv65 G D
  · exact sv66 G D
  · exact sv67 G D
  · exact sv68 G D
  · exact sv69 G D, ⟨fun sm h => by
  simp only [List.mem_cons, List.not_mem_nil, or_false] at h
  rcases h with rfl
  · exact sv0 G D, trivial⟩⟩⟩
noncomputable def M86 : TT (SV × SP) := evFnD (cfgT F (fun _ => none) hpE T86) 2000 85 (patAs 0 [(false, [(.lit (.int .u32 (.lit 2159027)))])]) ⟨hpE, []⟩
def spc86 : PC := []
def r86_0c0 : RT := (.leaf (.tuple [(.agg [(.int .i64 (.lit 37)), (.int .i64 (.lit 3)), (.int .i64 (.lit 1)), (.int .i64 (.lit 2)), (.int .i64 (.lit 0)), (.int .u32 (.lit 0)), (.bool (.lit false)), (.bool (.lit false))]), (.bool (.lit true))]))
theorem r86_0k0 : r86_0c0.ok 0 M86 spc86 = true := by kernel_rfl
def sm86 : Sm := ⟨[(false, [(.lit (.int .u32 (.lit 2159027)))])], false, r86_0c0⟩
theorem sv86 (G : Nat → Option Nat) (D : Hp) : SmValid Tryz.prog (GofSm G sm86) (DofSm D sm86) 85 sm86 := smValid0 (T := T86) (fuel := 2000) mixed hF (VT86 _ _) rfl r86_0k0
def T87 : List (Nat × List Sm) := [(85, [sm70, sm71, sm72, sm73, sm74, sm75, sm76, sm77, sm78, sm79, sm80, sm81, sm82, sm83, sm84, sm85, sm86]), (120, [sm1, sm2, sm3, sm4, sm5, sm6, sm7, sm8, sm9, sm10, sm11, sm12, sm13, sm14, sm15, sm16, sm17, sm18, sm19, sm20, sm21, sm22, sm23, sm24, sm25, sm26, sm27, sm28, sm29, sm30, sm31, sm32, sm33, sm34, sm35, sm36, sm37, sm38, sm39, sm40, sm41, sm42, sm43, sm44, sm45, sm46, sm47, sm48, sm49, sm50, sm51, sm52, sm53, sm54, sm55, sm56, sm57, sm58, sm59, sm60, sm61, sm62, sm63, sm64, sm65, sm66, sm67, sm68, sm69]), (151, [sm0])]
theorem VT87 (G : Nat → Option Nat) (D : Hp) : AllV Tryz.prog G D T87 := ⟨fun sm h => by
  simp only [List.mem_cons, List.not_mem_nil, or_false] at h
  rcases h with rfl | rfl | rfl | rfl | rfl | rfl | rfl | rfl | rfl | rfl | rfl | rfl | rfl | rfl | rfl | rfl | rfl
  · exact sv70 G D
  · exact sv71 G D
  · exact sv72 G D
  · exact sv73 G D
  · exact sv74 G D
  · exact sv75 G D
  · exact sv76 G D
  · exact sv77 G D
  · exact sv78 G D
  · exact sv79 G D
  · exact sv80 G D
  · exact sv81 G D
  · exact sv82 G D
  · exact sv83 G D
  · exact sv84 G D
  · exact sv85 G D
  · exact sv86 G D, ⟨fun sm h => by
  simp only [List.mem_cons, List.not_mem_nil, or_false] at h
  rcases h with rfl | rfl | rfl | rfl | rfl | rfl | rfl | rfl | rfl | rfl | rfl | rfl | rfl | rfl | rfl | rfl | rfl | rfl | rfl | rfl | rfl | rfl | rfl | rfl | rfl | rfl | rfl | rfl | rfl | rfl | rfl | rfl | rfl | rfl | rfl | rfl | rfl | rfl | rfl | rfl | rfl | rfl | rfl | rfl | rfl | rfl | rfl | rfl | rfl | rfl | rfl | rfl | rfl | rfl | rfl | rfl | rfl | rfl | rfl | rfl | rfl | rfl | rfl | rfl | rfl | rfl | rfl | rfl | rfl
  · exact sv1 G D
  · exact sv2 G D
  · exact sv3 G D
  · exact sv4 G D
  · exact sv5 G D
  · exact sv6 G D
  · exact sv7 G D
  · exact sv8 G D
  · exact sv9 G D
  · exact sv10 G D
  · exact sv11 G D
  · exact sv12 G D
  · exact sv13 G D
  · exact sv14 G D
  · exact sv15 G D
  · exact sv16 G D
  · exact sv17 G D
  · exact sv18 G D
  · exact sv19 G D
  · exact sv20 G D
  · exact sv21 G D
  · exact sv22 G D
  · exact sv23 G D
  · exact sv24 G D
  · exact sv25 G D
  · exact sv26 G D
  · exact sv27 G D
  · exact sv28 G D
  · exact sv29 G D
  · exact sv30 G D
  · exact sv31 G D
  · exact sv32 G D
  · exact sv33 G D
  · exact sv34 G D
  · exact sv35 G D
  · exact sv36 G D
  · exact sv37 G D
  · exact sv38 G D
  · exact sv39 G D
  · exact sv40 G D
  · exact sv41 G D
  · exact sv42 G D
  · exact sv43 G D
  · exact sv44 G D
  · exact sv45 G D
  · exact sv46 G D
  · exact sv47 G D
  · exact sv48 G D
  · exact sv49 G D
  · exact sv50 G D
  · exact sv51 G D
  · exact sv52 G D
  · exact sv53 G D
  · exact sv54 G D
  · exact sv55 G D
  · exact sv56 G D
  · exact sv57 G D
  · exact sv58 G D
  · exact sv59 G D
  · exact sv60 G D
  · exact sv61 G D
  · exact sv62 G D
  · exact sv63 G D
  · exact sv64 G D
  · exact sv65 G D
  · exact sv66 G D
  · exact sv67 G D
  · exact sv68 G D
  · exact sv69 G D, ⟨fun sm h => by
  simp only [List.mem_cons, List.not_mem_nil, or_false] at h
  rcases h with rfl
  · exact sv0 G D, trivial⟩⟩⟩
noncomputable def M87 : TT (SV × SP) := evFnD (cfgT F (fun _ => none) hpE T87) 2000 85 (patAs 0 [(false, [(.lit (.int .u32 (.lit 2154931)))])]) ⟨hpE, []⟩
def spc87 : PC := []
def r87_0c0 : RT := (.leaf (.tuple [(.agg [(.int .i64 (.lit 36)), (.int .i64 (.lit 3)), (.int .i64 (.lit 1)), (.int .i64 (.lit 2)), (.int .i64 (.lit 0)), (.int .u32 (.lit 0)), (.bool (.lit false)), (.bool (.lit false))]), (.bool (.lit true))]))
theorem r87_0k0 : r87_0c0.ok 0 M87 spc87 = true := by kernel_rfl
def sm87 : Sm := ⟨[(false, [(.lit (.int .u32 (.lit 2154931)))])], false, r87_0c0⟩
theorem sv87 (G : Nat → Option Nat) (D : Hp) : SmValid Tryz.prog (GofSm G sm87) (DofSm D sm87) 85 sm87 := smValid0 (T := T87) (fuel := 2000) mixed hF (VT87 _ _) rfl r87_0k0
end Go.Proofs.YtlpmhfgcbfjpfaaGreatDoor.hartReckons

/- Summaries of functions that HartReckons comes to, held against their runs. No condition. -/
import Derived.Test.YtlpmhfgcbfjpfaaGreatDoorSHartReckonsb
namespace Go.Proofs.YtlpmhfgcbfjpfaaGreatDoor.hartReckons
open Go.Sx
set_option linter.unusedVariables false
set_option linter.unusedSimpArgs false
set_option maxRecDepth 1000000
def T88 : List (Nat × List Sm) := [(85, [sm70, sm71, sm72, sm73, sm74, sm75, sm76, sm77, sm78, sm79, sm80, sm81, sm82, sm83, sm84, sm85, sm86, sm87]), (120, [sm1, sm2, sm3, sm4, sm5, sm6, sm7, sm8, sm9, sm10, sm11, sm12, sm13, sm14, sm15, sm16, sm17, sm18, sm19, sm20, sm21, sm22, sm23, sm24, sm25, sm26, sm27, sm28, sm29, sm30, sm31, sm32, sm33, sm34, sm35, sm36, sm37, sm38, sm39, sm40, sm41, sm42, sm43, sm44, sm45, sm46, sm47, sm48, sm49, sm50, sm51, sm52, sm53, sm54, sm55, sm56, sm57, sm58, sm59, sm60, sm61, sm62, sm63, sm64, sm65, sm66, sm67, sm68, sm69]), (151, [sm0])]
theorem VT88 (G : Nat → Option Nat) (D : Hp) : AllV Tryz.prog G D T88 := ⟨fun sm h => by
  simp only [List.mem_cons, List.not_mem_nil, or_false] at h
  rcases h with rfl | rfl | rfl | rfl | rfl | rfl | rfl | rfl | rfl | rfl | rfl | rfl | rfl | rfl | rfl | rfl | rfl | rfl
  · exact sv70 G D
  · exact sv71 G D
  · exact sv72 G D
  · exact sv73 G D
  · exact sv74 G D
  · exact sv75 G D
  · exact sv76 G D
  · exact sv77 G D
  · exact sv78 G D
  · exact sv79 G D
  · exact sv80 G D
  · exact sv81 G D
  · exact sv82 G D
  · exact sv83 G D
  · exact sv84 G D
  · exact sv85 G D
  · exact sv86 G D
  · exact sv87 G D, ⟨fun sm h => by
  simp only [List.mem_cons, List.not_mem_nil, or_false] at h
  rcases h with rfl | rfl | rfl | rfl | rfl | rfl | rfl | rfl | rfl | rfl | rfl | rfl | rfl | rfl | rfl | rfl | rfl | rfl | rfl | rfl | rfl | rfl | rfl | rfl | rfl | rfl | rfl | rfl | rfl | rfl | rfl | rfl | rfl | rfl | rfl | rfl | rfl | rfl | rfl | rfl | rfl | rfl | rfl | rfl | rfl | rfl | rfl | rfl | rfl | rfl | rfl | rfl | rfl | rfl | rfl | rfl | rfl | rfl | rfl | rfl | rfl | rfl | rfl | rfl | rfl | rfl | rfl | rfl | rfl
  · exact sv1 G D
  · exact sv2 G D
  · exact sv3 G D
  · exact sv4 G D
  · exact sv5 G D
  · exact sv6 G D
  · exact sv7 G D
  · exact sv8 G D
  · exact sv9 G D
  · exact sv10 G D
  · exact sv11 G D
  · exact sv12 G D
  · exact sv13 G D
  · exact sv14 G D
  · exact sv15 G D
  · exact sv16 G D
  · exact sv17 G D
  · exact sv18 G D
  · exact sv19 G D
  · exact sv20 G D
  · exact sv21 G D
  · exact sv22 G D
  · exact sv23 G D
  · exact sv24 G D
  · exact sv25 G D
  · exact sv26 G D
  · exact sv27 G D
  · exact sv28 G D
  · exact sv29 G D
  · exact sv30 G D
  · exact sv31 G D
  · exact sv32 G D
  · exact sv33 G D
  · exact sv34 G D
  · exact sv35 G D
  · exact sv36 G D
  · exact sv37 G D
  · exact sv38 G D
  · exact sv39 G D
  · exact sv40 G D
  · exact sv41 G D
  · exact sv42 G D
  · exact sv43 G D
  · exact sv44 G D
  · exact sv45 G D
  · exact sv46 G D
  · exact sv47 G D
  · exact sv48 G D
  · exact sv49 G D
  · exact sv50 G D
  · exact sv51 G D
  · exact sv52 G D
  · exact sv53 G D
  · exact sv54 G D
  · exact sv55 G D
  · exact sv56 G D
  · exact sv57 G D
  · exact sv58 G D
  · exact sv59 G D
  · exact sv60 G D
  · exact sv61 G D
  · exact sv62 G D
  · exact sv63 G D
  · exact sv64 G D
  · exact sv65 G D
  · exact sv66 G D
  · exact sv67 G D
  · exact sv68 G D
  · exact sv69 G D, ⟨fun sm h => by
  simp only [List.mem_cons, List.not_mem_nil, or_false] at h
  rcases h with rfl
  · exact sv0 G D, trivial⟩⟩⟩
noncomputable def M88 : TT (SV × SP) := evFnD (cfgT F (fun _ => none) hpE T88) 2000 85 (patAs 0 [(false, [(.lit (.int .u32 (.lit 2150835)))])]) ⟨hpE, []⟩
def spc88 : PC := []
def r88_0c0 : RT := (.leaf (.tuple [(.agg [(.int .i64 (.lit 34)), (.int .i64 (.lit 3)), (.int .i64 (.lit 1)), (.int .i64 (.lit 2)), (.int .i64 (.lit 0)), (.int .u32 (.lit 0)), (.bool (.lit false)), (.bool (.lit false))]), (.bool (.lit true))]))
theorem r88_0k0 : r88_0c0.ok 0 M88 spc88 = true := by kernel_rfl
def sm88 : Sm := ⟨[(false, [(.lit (.int .u32 (.lit 2150835)))])], false, r88_0c0⟩
theorem sv88 (G : Nat → Option Nat) (D : Hp) : SmValid Tryz.prog (GofSm G sm88) (DofSm D sm88) 85 sm88 := smValid0 (T := T88) (fuel := 2000) mixed hF (VT88 _ _) rfl r88_0k0
def T89 : List (Nat × List Sm) := [(85, [sm70, sm71, sm72, sm73, sm74, sm75, sm76, sm77, sm78, sm79, sm80, sm81, sm82, sm83, sm84, sm85, sm86, sm87, sm88]), (120, [sm1, sm2, sm3, sm4, sm5, sm6, sm7, sm8, sm9, sm10, sm11, sm12, sm13, sm14, sm15, sm16, sm17, sm18, sm19, sm20, sm21, sm22, sm23, sm24, sm25, sm26, sm27, sm28, sm29, sm30, sm31, sm32, sm33, sm34, sm35, sm36, sm37, sm38, sm39, sm40, sm41, sm42, sm43, sm44, sm45, sm46, sm47, sm48, sm49, sm50, sm51, sm52, sm53, sm54, sm55, sm56, sm57, sm58, sm59, sm60, sm61, sm62, sm63, sm64, sm65, sm66, sm67, sm68, sm69]), (151, [sm0])]
theorem VT89 (G : Nat → Option Nat) (D : Hp) : AllV Tryz.prog G D T89 := ⟨fun sm h => by
  simp only [List.mem_cons, List.not_mem_nil, or_false] at h
  rcases h with rfl | rfl | rfl | rfl | rfl | rfl | rfl | rfl | rfl | rfl | rfl | rfl | rfl | rfl | rfl | rfl | rfl | rfl | rfl
  · exact sv70 G D
  · exact sv71 G D
  · exact sv72 G D
  · exact sv73 G D
  · exact sv74 G D
  · exact sv75 G D
  · exact sv76 G D
  · exact sv77 G D
  · exact sv78 G D
  · exact sv79 G D
  · exact sv80 G D
  · exact sv81 G D
  · exact sv82 G D
  · exact sv83 G D
  · exact sv84 G D
  · exact sv85 G D
  · exact sv86 G D
  · exact sv87 G D
  · exact sv88 G D, ⟨fun sm h => by
  simp only [List.mem_cons, List.not_mem_nil, or_false] at h
  rcases h with rfl | rfl | rfl | rfl | rfl | rfl | rfl | rfl | rfl | rfl | rfl | rfl | rfl | rfl | rfl | rfl | rfl | rfl | rfl | rfl | rfl | rfl | rfl | rfl | rfl | rfl | rfl | rfl | rfl | rfl | rfl | rfl | rfl | rfl | rfl | rfl | rfl | rfl | rfl | rfl | rfl | rfl | rfl | rfl | rfl | rfl | rfl | rfl | rfl | rfl | rfl | rfl | rfl | rfl | rfl | rfl | rfl | rfl | rfl | rfl | rfl | rfl | rfl | rfl | rfl | rfl | rfl | rfl | rfl
  · exact sv1 G D
  · exact sv2 G D
  · exact sv3 G D
  · exact sv4 G D
  · exact sv5 G D
  · exact sv6 G D
  · exact sv7 G D
  · exact sv8 G D
  · exact sv9 G D
  · exact sv10 G D
  · exact sv11 G D
  · exact sv12 G D
  · exact sv13 G D
  · exact sv14 G D
  · exact sv15 G D
  · exact sv16 G D
  · exact sv17 G D
  · exact sv18 G D
  · exact sv19 G D
  · exact sv20 G D
  · exact sv21 G D
  · exact sv22 G D
  · exact sv23 G D
  · exact sv24 G D
  · exact sv25 G D
  · exact sv26 G D
  · exact sv27 G D
  · exact sv28 G D
  · exact sv29 G D
  · exact sv30 G D
  · exact sv31 G D
  · exact sv32 G D
  · exact sv33 G D
  · exact sv34 G D
  · exact sv35 G D
  · exact sv36 G D
  · exact sv37 G D
  · exact sv38 G D
  · exact sv39 G D
  · exact sv40 G D
  · exact sv41 G D
  · exact sv42 G D
  · exact sv43 G D
  · exact sv44 G D
  · exact sv45 G D
  · exact sv46 G D
  · exact sv47 G D
  · exact sv48 G D
  · exact sv49 G D
  · exact sv50 G D
  · exact sv51 G D
  · exact sv52 G D
  · exact sv53 G D
  · exact sv54 G D
  · exact sv55 G D
  · exact sv56 G D
  · exact sv57 G D
  · exact sv58 G D
  · exact sv59 G D
  · exact sv60 G D
  · exact sv61 G D
  · exact sv62 G D
  · exact sv63 G D
  · exact sv64 G D
  · exact sv65 G D
  · exact sv66 G D
  · exact sv67 G D
  · exact sv68 G D
  · exact sv69 G D, ⟨fun sm h => by
  simp only [List.mem_cons, List.not_mem_nil, or_false] at h
  rcases h with rfl
  · exact sv0 G D, trivial⟩⟩⟩
noncomputable def M89 : TT (SV × SP) := evFnD (cfgT F (fun _ => none) hpE T89) 2000 85 (patAs 0 [(false, [(.lit (.int .u32 (.lit 2146739)))])]) ⟨hpE, []⟩
def spc89 : PC := []
def r89_0c0 : RT := (.leaf (.tuple [(.agg [(.int .i64 (.lit 33)), (.int .i64 (.lit 3)), (.int .i64 (.lit 1)), (.int .i64 (.lit 2)), (.int .i64 (.lit 0)), (.int .u32 (.lit 0)), (.bool (.lit false)), (.bool (.lit false))]), (.bool (.lit true))]))
theorem r89_0k0 : r89_0c0.ok 0 M89 spc89 = true := by kernel_rfl
def sm89 : Sm := ⟨[(false, [(.lit (.int .u32 (.lit 2146739)))])], false, r89_0c0⟩
theorem sv89 (G : Nat → Option Nat) (D : Hp) : SmValid Tryz.prog (GofSm G sm89) (DofSm D sm89) 85 sm89 := smValid0 (T := T89) (fuel := 2000) mixed hF (VT89 _ _) rfl r89_0k0
def T90 : List (Nat × List Sm) := [(85, [sm70, sm71, sm72, sm73, sm74, sm75, sm76, sm77, sm78, sm79, sm80, sm81, sm82, sm83, sm84, sm85, sm86, sm87, sm88, sm89]), (120, [sm1, sm2, sm3, sm4, sm5, sm6, sm7, sm8, sm9, sm10, sm11, sm12, sm13, sm14, sm15, sm16, sm17, sm18, sm19, sm20, sm21, sm22, sm23, sm24, sm25, sm26, sm27, sm28, sm29, sm30, sm31, sm32, sm33, sm34, sm35, sm36, sm37, sm38, sm39, sm40, sm41, sm42, sm43, sm44, sm45, sm46, sm47, sm48, sm49, sm50, sm51, sm52, sm53, sm54, sm55, sm56, sm57, sm58, sm59, sm60, sm61, sm62, sm63, sm64, sm65, sm66, sm67, sm68, sm69]), (151, [sm0])]
theorem VT90 (G : Nat → Option Nat) (D : Hp) : AllV Tryz.prog G D T90 := ⟨fun sm h => by
  simp only [List.mem_cons, List.not_mem_nil, or_false] at h
  rcases h with rfl | rfl | rfl | rfl | rfl | rfl | rfl | rfl | rfl | rfl | rfl | rfl | rfl | rfl | rfl | rfl | rfl | rfl | rfl | rfl
  · exact sv70 G D
  · exact sv71 G D
  · exact sv72 G D
  · exact sv73 G D
  · exact sv74 G D
  · exact sv75 G D
  · exact sv76 G D
  · exact sv77 G D
  · exact sv78 G D
  · exact sv79 G D
  · exact sv80 G D
  · exact sv81 G D
  · exact sv82 G D
  · exact sv83 G D
  · exact sv84 G D
  · exact sv85 G D
  · exact sv86 G D
  · exact sv87 G D
  · exact sv88 G D
  · exact sv89 G D, ⟨fun sm h => by
  simp only [List.mem_cons, List.not_mem_nil, or_false] at h
  rcases h with rfl | rfl | rfl | rfl | rfl | rfl | rfl | rfl | rfl | rfl | rfl | rfl | rfl | rfl | rfl | rfl | rfl | rfl | rfl | rfl | rfl | rfl | rfl | rfl | rfl | rfl | rfl | rfl | rfl | rfl | rfl | rfl | rfl | rfl | rfl | rfl | rfl | rfl | rfl | rfl | rfl | rfl | rfl | rfl | rfl | rfl | rfl | rfl | rfl | rfl | rfl | rfl | rfl | rfl | rfl | rfl | rfl | rfl | rfl | rfl | rfl | rfl | rfl | rfl | rfl | rfl | rfl | rfl | rfl
  · exact sv1 G D
  · exact sv2 G D
  · exact sv3 G D
  · exact sv4 G D
  · exact sv5 G D
  · exact sv6 G D
  · exact sv7 G D
  · exact sv8 G D
  · exact sv9 G D
  · exact sv10 G D
  · exact sv11 G D
  · exact sv12 G D
  · exact sv13 G D
  · exact sv14 G D
  · exact sv15 G D
  · exact sv16 G D
  · exact sv17 G D
  · exact sv18 G D
  · exact sv19 G D
  · exact sv20 G D
  · exact sv21 G D
  · exact sv22 G D
  · exact sv23 G D
  · exact sv24 G D
  · exact sv25 G D
  · exact sv26 G D
  · exact sv27 G D
  · exact sv28 G D
  · exact sv29 G D
  · exact sv30 G D
  · exact sv31 G D
  · exact sv32 G D
  · exact sv33 G D
  · exact sv34 G D
  · exact sv35 G D
  · exact sv36 G D
  · exact sv37 G D
  · exact sv38 G D
  · exact sv39 G D
  · exact sv40 G D
  · exact sv41 G D
  · exact sv42 G D
  · exact sv43 G D
  · exact sv44 G D
  · exact sv45 G D
  · exact sv46 G D
  · exact sv47 G D
  · exact sv48 G D
  · exact sv49 G D
  · exact sv50 G D
  · exact sv51 G D
  · exact sv52 G D
  · exact sv53 G D
  · exact sv54 G D
  · exact sv55 G D
  · exact sv56 G D
  · exact sv57 G D
  · exact sv58 G D
  · exact sv59 G D
  · exact sv60 G D
  · exact sv61 G D
  · exact sv62 G D
  · exact sv63 G D
  · exact sv64 G D
  · exact sv65 G D
  · exact sv66 G D
  · exact sv67 G D
  · exact sv68 G D
  · exact sv69 G D, ⟨fun sm h => by
  simp only [List.mem_cons, List.not_mem_nil, or_false] at h
  rcases h with rfl
  · exact sv0 G D, trivial⟩⟩⟩
noncomputable def M90 : TT (SV × SP) := evFnD (cfgT F (fun _ => none) hpE T90) 2000 85 (patAs 0 [(false, [(.lit (.int .u32 (.lit 2142643)))])]) ⟨hpE, []⟩
def spc90 : PC := []
def r90_0c0 : RT := (.leaf (.tuple [(.agg [(.int .i64 (.lit 32)), (.int .i64 (.lit 3)), (.int .i64 (.lit 1)), (.int .i64 (.lit 2)), (.int .i64 (.lit 0)), (.int .u32 (.lit 0)), (.bool (.lit false)), (.bool (.lit false))]), (.bool (.lit true))]))
theorem r90_0k0 : r90_0c0.ok 0 M90 spc90 = true := by kernel_rfl
def sm90 : Sm := ⟨[(false, [(.lit (.int .u32 (.lit 2142643)))])], false, r90_0c0⟩
theorem sv90 (G : Nat → Option Nat) (D : Hp) : SmValid Tryz.prog (GofSm G sm90) (DofSm D sm90) 85 sm90 := smValid0 (T := T90) (fuel := 2000) mixed hF (VT90 _ _) rfl r90_0k0
def T91 : List (Nat × List Sm) := [(85, [sm70, sm71, sm72, sm73, sm74, sm75, sm76, sm77, sm78, sm79, sm80, sm81, sm82, sm83, sm84, sm85, sm86, sm87, sm88, sm89, sm90]), (120, [sm1, sm2, sm3, sm4, sm5, sm6, sm7, sm8, sm9, sm10, sm11, sm12, sm13, sm14, sm15, sm16, sm17, sm18, sm19, sm20, sm21, sm22, sm23, sm24, sm25, sm26, sm27, sm28, sm29, sm30, sm31, sm32, sm33, sm34, sm35, sm36, sm37, sm38, sm39, sm40, sm41, sm42, sm43, sm44, sm45, sm46, sm47, sm48, sm49, sm50, sm51, sm52, sm53, sm54, sm55, sm56, sm57, sm58, sm59, sm60, sm61, sm62, sm63, sm64, sm65, sm66, sm67, sm68, sm69]), (151, [sm0])]
theorem VT91 (G : Nat → Option Nat) (D : Hp) : AllV Tryz.prog G D T91 := ⟨fun sm h => by
  simp only [List.mem_cons, List.not_mem_nil, or_false] at h
  rcases h with rfl | rfl | rfl | rfl | rfl | rfl | rfl | rfl | rfl | rfl | rfl | rfl | rfl | rfl | rfl | rfl | rfl | rfl | rfl | rfl | rfl
  · exact sv70 G D
  · exact sv71 G D
  · exact sv72 G D
  · exact sv73 G D
  · exact sv74 G D
  · exact sv75 G D
  · exact sv76 G D
  · exact sv77 G D
  · exact sv78 G D
  · exact sv79 G D
  · exact sv80 G D
  · exact sv81 G D
  · exact sv82 G D
  · exact sv83 G D
  · exact sv84 G D
  · exact sv85 G D
  · exact sv86 G D
  · exact sv87 G D
  · exact sv88 G D
  · exact sv89 G D
  · exact sv90 G D, ⟨fun sm h => by
  simp only [List.mem_cons, List.not_mem_nil, or_false] at h
  rcases h with rfl | rfl | rfl | rfl | rfl | rfl | rfl | rfl | rfl | rfl | rfl | rfl | rfl | rfl | rfl | rfl | rfl | rfl | rfl | rfl | rfl | rfl | rfl | rfl | rfl | rfl | rfl | rfl | rfl | rfl | rfl | rfl | rfl | rfl | rfl | rfl | rfl | rfl | rfl | rfl | rfl | rfl | rfl | rfl | rfl | rfl | rfl | rfl | rfl | rfl | rfl | rfl | rfl | rfl | rfl | rfl | rfl | rfl | rfl | rfl | rfl | rfl | rfl | rfl | rfl | rfl | rfl | rfl | rfl
  · exact sv1 G D
  · exact sv2 G D
  · exact sv3 G D
  · exact sv4 G D
  · exact sv5 G D
  · exact sv6 G D
  · exact sv7 G D
  · exact sv8 G D
  · exact sv9 G D
  · exact sv10 G D
  · exact sv11 G D
  · exact sv12 G D
  · exact sv13 G D
  · exact sv14 G D
  · exact sv15 G D
  · exact sv16 G D
  · exact sv17 G D
  · exact sv18 G D
  · exact sv19 G D
  · exact sv20 G D
  · exact sv21 G D
  · exact sv22 G D
  · exact sv23 G D
  · exact sv24 G D
  · exact sv25 G D
  · exact sv26 G D
  · exact sv27 G D
  · exact sv28 G D
  · exact sv29 G D
  · exact sv30 G D
  · exact sv31 G D
  · exact sv32 G D
  · exact sv33 G D
  · exact sv34 G D
  · exact sv35 G D
  · exact sv36 G D
  · exact sv37 G D
  · exact sv38 G D
  · exact sv39 G D
  · exact sv40 G D
  · exact sv41 G D
  · exact sv42 G D
  · exact sv43 G D
  · exact sv44 G D
  · exact sv45 G D
  · exact sv46 G D
  · exact sv47 G D
  · exact sv48 G D
  · exact sv49 G D
  · exact sv50 G D
  · exact sv51 G D
  · exact sv52 G D
  · exact sv53 G D
  · exact sv54 G D
  · exact sv55 G D
  · exact sv56 G D
  · exact sv57 G D
  · exact sv58 G D
  · exact sv59 G D
  · exact sv60 G D
  · exact sv61 G D
  · exact sv62 G D
  · exact sv63 G D
  · exact sv64 G D
  · exact sv65 G D
  · exact sv66 G D
  · exact sv67 G D
  · exact sv68 G D
  · exact sv69 G D, ⟨fun sm h => by
  simp only [List.mem_cons, List.not_mem_nil, or_false] at h
  rcases h with rfl
  · exact sv0 G D, trivial⟩⟩⟩
noncomputable def M91 : TT (SV × SP) := evFnD (cfgT F (fun _ => none) hpE T91) 2000 85 (patAs 0 [(false, [(.lit (.int .u32 (.lit 2138547)))])]) ⟨hpE, []⟩
def spc91 : PC := []
def r91_0c0 : RT := (.leaf (.tuple [(.agg [(.int .i64 (.lit 31)), (.int .i64 (.lit 3)), (.int .i64 (.lit 1)), (.int .i64 (.lit 2)), (.int .i64 (.lit 0)), (.int .u32 (.lit 0)), (.bool (.lit false)), (.bool (.lit false))]), (.bool (.lit true))]))
theorem r91_0k0 : r91_0c0.ok 0 M91 spc91 = true := by kernel_rfl
def sm91 : Sm := ⟨[(false, [(.lit (.int .u32 (.lit 2138547)))])], false, r91_0c0⟩
theorem sv91 (G : Nat → Option Nat) (D : Hp) : SmValid Tryz.prog (GofSm G sm91) (DofSm D sm91) 85 sm91 := smValid0 (T := T91) (fuel := 2000) mixed hF (VT91 _ _) rfl r91_0k0
def T92 : List (Nat × List Sm) := [(85, [sm70, sm71, sm72, sm73, sm74, sm75, sm76, sm77, sm78, sm79, sm80, sm81, sm82, sm83, sm84, sm85, sm86, sm87, sm88, sm89, sm90, sm91]), (120, [sm1, sm2, sm3, sm4, sm5, sm6, sm7, sm8, sm9, sm10, sm11, sm12, sm13, sm14, sm15, sm16, sm17, sm18, sm19, sm20, sm21, sm22, sm23, sm24, sm25, sm26, sm27, sm28, sm29, sm30, sm31, sm32, sm33, sm34, sm35, sm36, sm37, sm38, sm39, sm40, sm41, sm42, sm43, sm44, sm45, sm46, sm47, sm48, sm49, sm50, sm51, sm52, sm53, sm54, sm55, sm56, sm57, sm58, sm59, sm60, sm61, sm62, sm63, sm64, sm65, sm66, sm67, sm68, sm69]), (151, [sm0])]
theorem VT92 (G : Nat → Option Nat) (D : Hp) : AllV Tryz.prog G D T92 := ⟨fun sm h => by
  simp only [List.mem_cons, List.not_mem_nil, or_false] at h
  rcases h with rfl | rfl | rfl | rfl | rfl | rfl | rfl | rfl | rfl | rfl | rfl | rfl | rfl | rfl | rfl | rfl | rfl | rfl | rfl | rfl | rfl | rfl
  · exact sv70 G D
  · exact sv71 G D
  · exact sv72 G D
  · exact sv73 G D
  · exact sv74 G D
  · exact sv75 G D
  · exact sv76 G D
  · exact sv77 G D
  · exact sv78 G D
  · exact sv79 G D
  · exact sv80 G D
  · exact sv81 G D
  · exact sv82 G D
  · exact sv83 G D
  · exact sv84 G D
  · exact sv85 G D
  · exact sv86 G D
  · exact sv87 G D
  · exact sv88 G D
  · exact sv89 G D
  · exact sv90 G D
  · exact sv91 G D, ⟨fun sm h => by
  simp only [List.mem_cons, List.not_mem_nil, or_false] at h
  rcases h with rfl | rfl | rfl | rfl | rfl | rfl | rfl | rfl | rfl | rfl | rfl | rfl | rfl | rfl | rfl | rfl | rfl | rfl | rfl | rfl | rfl | rfl | rfl | rfl | rfl | rfl | rfl | rfl | rfl | rfl | rfl | rfl | rfl | rfl | rfl | rfl | rfl | rfl | rfl | rfl | rfl | rfl | rfl | rfl | rfl | rfl | rfl | rfl | rfl | rfl | rfl | rfl | rfl | rfl | rfl | rfl | rfl | rfl | rfl | rfl | rfl | rfl | rfl | rfl | rfl | rfl | rfl | rfl | rfl
  · exact sv1 G D
  · exact sv2 G D
  · exact sv3 G D
  · exact sv4 G D
  · exact sv5 G D
  · exact sv6 G D
  · exact sv7 G D
  · exact sv8 G D
  · exact sv9 G D
  · exact sv10 G D
  · exact sv11 G D
  · exact sv12 G D
  · exact sv13 G D
  · exact sv14 G D
  · exact sv15 G D
  · exact sv16 G D
  · exact sv17 G D
  · exact sv18 G D
  · exact sv19 G D
  · exact sv20 G D
  · exact sv21 G D
  · exact sv22 G D
  · exact sv23 G D
  · exact sv24 G D
  · exact sv25 G D
  · exact sv26 G D
  · exact sv27 G D
  · exact sv28 G D
  · exact sv29 G D
  · exact sv30 G D
  · exact sv31 G D
  · exact sv32 G D
  · exact sv33 G D
  · exact sv34 G D
  · exact sv35 G D
  · exact sv36 G D
  · exact sv37 G D
  · exact sv38 G D
  · exact sv39 G D
  · exact sv40 G D
  · exact sv41 G D
  · exact sv42 G D
  · exact sv43 G D
  · exact sv44 G D
  · exact sv45 G D
  · exact sv46 G D
  · exact sv47 G D
  · exact sv48 G D
  · exact sv49 G D
  · exact sv50 G D
  · exact sv51 G D
  · exact sv52 G D
  · exact sv53 G D
  · exact sv54 G D
  · exact sv55 G D
  · exact sv56 G D
  · exact sv57 G D
  · exact sv58 G D
  · exact sv59 G D
  · exact sv60 G D
  · exact sv61 G D
  · exact sv62 G D
  · exact sv63 G D
  · exact sv64 G D
  · exact sv65 G D
  · exact sv66 G D
  · exact sv67 G D
  · exact sv68 G D
  · exact sv69 G D, ⟨fun sm h => by
  simp only [List.mem_cons, List.not_mem_nil, or_false] at h
  rcases h with rfl
  · exact sv0 G D, trivial⟩⟩⟩
noncomputable def M92 : TT (SV × SP) := evFnD (cfgT F (fun _ => none) hpE T92) 2000 85 (patAs 0 [(false, [(.lit (.int .u32 (.lit 2134451)))])]) ⟨hpE, []⟩
def spc92 : PC := []
def r92_0c0 : RT := (.leaf (.tuple [(.agg [(.int .i64 (.lit 30)), (.int .i64 (.lit 3)), (.int .i64 (.lit 1)), (.int .i64 (.lit 2)), (.int .i64 (.lit 0)), (.int .u32 (.lit 0)), (.bool (.lit false)), (.bool (.lit false))]), (.bool (.lit true))]))
theorem r92_0k0 : r92_0c0.ok 0 M92 spc92 = true := by kernel_rfl
def sm92 : Sm := ⟨[(false, [(.lit (.int .u32 (.lit 2134451)))])], false, r92_0c0⟩
theorem sv92 (G : Nat → Option Nat) (D : Hp) : SmValid Tryz.prog (GofSm G sm92) (DofSm D sm92) 85 sm92 := smValid0 (T := T92) (fuel := 2000) mixed hF (VT92 _ _) rfl r92_0k0
def T93 : List (Nat × List Sm) := [(85, [sm70, sm71, sm72, sm73, sm74, sm75, sm76, sm77, sm78, sm79, sm80, sm81, sm82, sm83, sm84, sm85, sm86, sm87, sm88, sm89, sm90, sm91, sm92]), (120, [sm1, sm2, sm3, sm4, sm5, sm6, sm7, sm8, sm9, sm10, sm11, sm12, sm13, sm14, sm15, sm16, sm17, sm18, sm19, sm20, sm21, sm22, sm23, sm24, sm25, sm26, sm27, sm28, sm29, sm30, sm31, sm32, sm33, sm34, sm35, sm36, sm37, sm38, sm39, sm40, sm41, sm42, sm43, sm44, sm45, sm46, sm47, sm48, sm49, sm50, sm51, sm52, sm53, sm54, sm55, sm56, sm57, sm58, sm59, sm60, sm61, sm62, sm63, sm64, sm65, sm66, sm67, sm68, sm69]), (151, [sm0])]
theorem VT93 (G : Nat → Option Nat) (D : Hp) : AllV Tryz.prog G D T93 := ⟨fun sm h => by
  simp only [List.mem_cons, List.not_mem_nil, or_false] at h
  rcases h with rfl | rfl | rfl | rfl | rfl | rfl | rfl | rfl | rfl | rfl | rfl | rfl | rfl | rfl | rfl | rfl | rfl | rfl | rfl | rfl | rfl | rfl | rfl
  · exact sv70 G D
  · exact sv71 G D
  · exact sv72 G D
  · exact sv73 G D
  · exact sv74 G D
  · exact sv75 G D
  · exact sv76 G D
  · exact sv77 G D
  · exact sv78 G D
  · exact sv79 G D
  · exact sv80 G D
  · exact sv81 G D
  · exact sv82 G D
  · exact sv83 G D
  · exact sv84 G D
  · exact sv85 G D
  · exact sv86 G D
  · exact sv87 G D
  · exact sv88 G D
  · exact sv89 G D
  · exact sv90 G D
  · exact sv91 G D
  · exact sv92 G D, ⟨fun sm h => by
  simp only [List.mem_cons, List.not_mem_nil, or_false] at h
  rcases h with rfl | rfl | rfl | rfl | rfl | rfl | rfl | rfl | rfl | rfl | rfl | rfl | rfl | rfl | rfl | rfl | rfl | rfl | rfl | rfl | rfl | rfl | rfl | rfl | rfl | rfl | rfl | rfl | rfl | rfl | rfl | rfl | rfl | rfl | rfl | rfl | rfl | rfl | rfl | rfl | rfl | rfl | rfl | rfl | rfl | rfl | rfl | rfl | rfl | rfl | rfl | rfl | rfl | rfl | rfl | rfl | rfl | rfl | rfl | rfl | rfl | rfl | rfl | rfl | rfl | rfl | rfl | rfl | rfl
  · exact sv1 G D
  · exact sv2 G D
  · exact sv3 G D
  · exact sv4 G D
  · exact sv5 G D
  · exact sv6 G D
  · exact sv7 G D
  · exact sv8 G D
  · exact sv9 G D
  · exact sv10 G D
  · exact sv11 G D
  · exact sv12 G D
  · exact sv13 G D
  · exact sv14 G D
  · exact sv15 G D
  · exact sv16 G D
  · exact sv17 G D
  · exact sv18 G D
  · exact sv19 G D
  · exact sv20 G D
  · exact sv21 G D
  · exact sv22 G D
  · exact sv23 G D
  · exact sv24 G D
  · exact sv25 G D
  · exact sv26 G D
  · exact sv27 G D
  · exact sv28 G D
  · exact sv29 G D
  · exact sv30 G D
  · exact sv31 G D
  · exact sv32 G D
  · exact sv33 G D
  · exact sv34 G D
  · exact sv35 G D
  · exact sv36 G D
  · exact sv37 G D
  · exact sv38 G D
  · exact sv39 G D
  · exact sv40 G D
  · exact sv41 G D
  · exact sv42 G D
  · exact sv43 G D
  · exact sv44 G D
  · exact sv45 G D
  · exact sv46 G D
  · exact sv47 G D
  · exact sv48 G D
  · exact sv49 G D
  · exact sv50 G D
  · exact sv51 G D
  · exact sv52 G D
  · exact sv53 G D
  · exact sv54 G D
  · exact sv55 G D
  · exact sv56 G D
  · exact sv57 G D
  · exact sv58 G D
  · exact sv59 G D
  · exact sv60 G D
  · exact sv61 G D
  · exact sv62 G D
  · exact sv63 G D
  · exact sv64 G D
  · exact sv65 G D
  · exact sv66 G D
  · exact sv67 G D
  · exact sv68 G D
  · exact sv69 G D, ⟨fun sm h => by
  simp only [List.mem_cons, List.not_mem_nil, or_false] at h
  rcases h with rfl
  · exact sv0 G D, trivial⟩⟩⟩
noncomputable def M93 : TT (SV × SP) := evFnD (cfgT F (fun _ => none) hpE T93) 2000 85 (patAs 0 [(false, [(.lit (.int .u32 (.lit 2130355)))])]) ⟨hpE, []⟩
def spc93 : PC := []
def r93_0c0 : RT := (.leaf (.tuple [(.agg [(.int .i64 (.lit 28)), (.int .i64 (.lit 3)), (.int .i64 (.lit 1)), (.int .i64 (.lit 2)), (.int .i64 (.lit 0)), (.int .u32 (.lit 0)), (.bool (.lit false)), (.bool (.lit false))]), (.bool (.lit true))]))
theorem r93_0k0 : r93_0c0.ok 0 M93 spc93 = true := by kernel_rfl
def sm93 : Sm := ⟨[(false, [(.lit (.int .u32 (.lit 2130355)))])], false, r93_0c0⟩
theorem sv93 (G : Nat → Option Nat) (D : Hp) : SmValid Tryz.prog (GofSm G sm93) (DofSm D sm93) 85 sm93 := smValid0 (T := T93) (fuel := 2000) mixed hF (VT93 _ _) rfl r93_0k0
def T94 : List (Nat × List Sm) := [(85, [sm70, sm71, sm72, sm73, sm74, sm75, sm76, sm77, sm78, sm79, sm80, sm81, sm82, sm83, sm84, sm85, sm86, sm87, sm88, sm89, sm90, sm91, sm92, sm93]), (120, [sm1, sm2, sm3, sm4, sm5, sm6, sm7, sm8, sm9, sm10, sm11, sm12, sm13, sm14, sm15, sm16, sm17, sm18, sm19, sm20, sm21, sm22, sm23, sm24, sm25, sm26, sm27, sm28, sm29, sm30, sm31, sm32, sm33, sm34, sm35, sm36, sm37, sm38, sm39, sm40, sm41, sm42, sm43, sm44, sm45, sm46, sm47, sm48, sm49, sm50, sm51, sm52, sm53, sm54, sm55, sm56, sm57, sm58, sm59, sm60, sm61, sm62, sm63, sm64, sm65, sm66, sm67, sm68, sm69]), (151, [sm0])]
theorem VT94 (G : Nat → Option Nat) (D : Hp) : AllV Tryz.prog G D T94 := ⟨fun sm h => by
  simp only [List.mem_cons, List.not_mem_nil, or_false] at h
  rcases h with rfl | rfl | rfl | rfl | rfl | rfl | rfl | rfl | rfl | rfl | rfl | rfl | rfl | rfl | rfl | rfl | rfl | rfl | rfl | rfl | rfl | rfl | rfl | rfl
  · exact sv70 G D
  · exact sv71 G D
  · exact sv72 G D
  · exact sv73 G D
  · exact sv74 G D
  · exact sv75 G D
  · exact sv76 G D
  · exact sv77 G D
  · exact sv78 G D
  · exact sv79 G D
  · exact sv80 G D
  · exact sv81 G D
  · exact sv82 G D
  · exact sv83 G D
  · exact sv84 G D
  · exact sv85 G D
  · exact sv86 G D
  · exact sv87 G D
  · exact sv88 G D
  · exact sv89 G D
  · exact sv90 G D
  · exact sv91 G D
  · exact sv92 G D
  · exact sv93 G D, ⟨fun sm h => by
  simp only [List.mem_cons, List.not_mem_nil, or_false] at h
  rcases h with rfl | rfl | rfl | rfl | rfl | rfl | rfl | rfl | rfl | rfl | rfl | rfl | rfl | rfl | rfl | rfl | rfl | rfl | rfl | rfl | rfl | rfl | rfl | rfl | rfl | rfl | rfl | rfl | rfl | rfl | rfl | rfl | rfl | rfl | rfl | rfl | rfl | rfl | rfl | rfl | rfl | rfl | rfl | rfl | rfl | rfl | rfl | rfl | rfl | rfl | rfl | rfl | rfl | rfl | rfl | rfl | rfl | rfl | rfl | rfl | rfl | rfl | rfl | rfl | rfl | rfl | rfl | rfl | rfl
  · exact sv1 G D
  · exact sv2 G D
  · exact sv3 G D
  · exact sv4 G D
  · exact sv5 G D
  · exact sv6 G D
  · exact sv7 G D
  · exact sv8 G D
  · exact sv9 G D
  · exact sv10 G D
  · exact sv11 G D
  · exact sv12 G D
  · exact sv13 G D
  · exact sv14 G D
  · exact sv15 G D
  · exact sv16 G D
  · exact sv17 G D
  · exact sv18 G D
  · exact sv19 G D
  · exact sv20 G D
  · exact sv21 G D
  · exact sv22 G D
  · exact sv23 G D
  · exact sv24 G D
  · exact sv25 G D
  · exact sv26 G D
  · exact sv27 G D
  · exact sv28 G D
  · exact sv29 G D
  · exact sv30 G D
  · exact sv31 G D
  · exact sv32 G D
  · exact sv33 G D
  · exact sv34 G D
  · exact sv35 G D
  · exact sv36 G D
  · exact sv37 G D
  · exact sv38 G D
  · exact sv39 G D
  · exact sv40 G D
  · exact sv41 G D
  · exact sv42 G D
  · exact sv43 G D
  · exact sv44 G D
  · exact sv45 G D
  · exact sv46 G D
  · exact sv47 G D
  · exact sv48 G D
  · exact sv49 G D
  · exact sv50 G D
  · exact sv51 G D
  · exact sv52 G D
  · exact sv53 G D
  · exact sv54 G D
  · exact sv55 G D
  · exact sv56 G D
  · exact sv57 G D
  · exact sv58 G D
  · exact sv59 G D
  · exact sv60 G D
  · exact sv61 G D
  · exact sv62 G D
  · exact sv63 G D
  · exact sv64 G D
  · exact sv65 G D
  · exact sv66 G D
  · exact sv67 G D
  · exact sv68 G D
  · exact sv69 G D, ⟨fun sm h => by
  simp only [List.mem_cons, List.not_mem_nil, or_false] at h
  rcases h with rfl
  · exact sv0 G D, trivial⟩⟩⟩
noncomputable def M94 : TT (SV × SP) := evFnD (cfgT F (fun _ => none) hpE T94) 2000 85 (patAs 0 [(false, [(.lit (.int .u32 (.lit 1075892659)))])]) ⟨hpE, []⟩
def spc94 : PC := []
def r94_0c0 : RT := (.leaf (.tuple [(.agg [(.int .i64 (.lit 35)), (.int .i64 (.lit 3)), (.int .i64 (.lit 1)), (.int .i64 (.lit 2)), (.int .i64 (.lit 0)), (.int .u32 (.lit 0)), (.bool (.lit false)), (.bool (.lit false))]), (.bool (.lit true))]))
theorem r94_0k0 : r94_0c0.ok 0 M94 spc94 = true := by kernel_rfl
def sm94 : Sm := ⟨[(false, [(.lit (.int .u32 (.lit 1075892659)))])], false, r94_0c0⟩
theorem sv94 (G : Nat → Option Nat) (D : Hp) : SmValid Tryz.prog (GofSm G sm94) (DofSm D sm94) 85 sm94 := smValid0 (T := T94) (fuel := 2000) mixed hF (VT94 _ _) rfl r94_0k0
def T95 : List (Nat × List Sm) := [(85, [sm70, sm71, sm72, sm73, sm74, sm75, sm76, sm77, sm78, sm79, sm80, sm81, sm82, sm83, sm84, sm85, sm86, sm87, sm88, sm89, sm90, sm91, sm92, sm93, sm94]), (120, [sm1, sm2, sm3, sm4, sm5, sm6, sm7, sm8, sm9, sm10, sm11, sm12, sm13, sm14, sm15, sm16, sm17, sm18, sm19, sm20, sm21, sm22, sm23, sm24, sm25, sm26, sm27, sm28, sm29, sm30, sm31, sm32, sm33, sm34, sm35, sm36, sm37, sm38, sm39, sm40, sm41, sm42, sm43, sm44, sm45, sm46, sm47, sm48, sm49, sm50, sm51, sm52, sm53, sm54, sm55, sm56, sm57, sm58, sm59, sm60, sm61, sm62, sm63, sm64, sm65, sm66, sm67, sm68, sm69]), (151, [sm0])]
theorem VT95 (G : Nat → Option Nat) (D : Hp) : AllV Tryz.prog G D T95 := ⟨fun sm h => by
  simp only [List.mem_cons, List.not_mem_nil, or_false] at h
  rcases h with rfl | rfl | rfl | rfl | rfl | rfl | rfl | rfl | rfl | rfl | rfl | rfl | rfl | rfl | rfl | rfl | rfl | rfl | rfl | rfl | rfl | rfl | rfl | rfl | rfl
  · exact sv70 G D
  · exact sv71 G D
  · exact sv72 G D
  · exact sv73 G D
  · exact sv74 G D
  · exact sv75 G D
  · exact sv76 G D
  · exact sv77 G D
  · exact sv78 G D
  · exact sv79 G D
  · exact sv80 G D
  · exact sv81 G D
  · exact sv82 G D
  · exact sv83 G D
  · exact sv84 G D
  · exact sv85 G D
  · exact sv86 G D
  · exact sv87 G D
  · exact sv88 G D
  · exact sv89 G D
  · exact sv90 G D
  · exact sv91 G D
  · exact sv92 G D
  · exact sv93 G D
  · exact sv94 G D, ⟨fun sm h => by
  simp only [List.mem_cons, List.not_mem_nil, or_false] at h
  rcases h with rfl | rfl | rfl | rfl | rfl | rfl | rfl | rfl | rfl | rfl | rfl | rfl | rfl | rfl | rfl | rfl | rfl | rfl | rfl | rfl | rfl | rfl | rfl | rfl | rfl | rfl | rfl | rfl | rfl | rfl | rfl | rfl | rfl | rfl | rfl | rfl | rfl | rfl | rfl | rfl | rfl | rfl | rfl | rfl | rfl | rfl | rfl | rfl | rfl | rfl | rfl | rfl | rfl | rfl | rfl | rfl | rfl | rfl | rfl | rfl | rfl | rfl | rfl | rfl | rfl | rfl | rfl | rfl | rfl
  · exact sv1 G D
  · exact sv2 G D
  · exact sv3 G D
  · exact sv4 G D
  · exact sv5 G D
  · exact sv6 G D
  · exact sv7 G D
  · exact sv8 G D
  · exact sv9 G D
  · exact sv10 G D
  · exact sv11 G D
  · exact sv12 G D
  · exact sv13 G D
  · exact sv14 G D
  · exact sv15 G D
  · exact sv16 G D
  · exact sv17 G D
  · exact sv18 G D
  · exact sv19 G D
  · exact sv20 G D
  · exact sv21 G D
  · exact sv22 G D
  · exact sv23 G D
  · exact sv24 G D
  · exact sv25 G D
  · exact sv26 G D
  · exact sv27 G D
  · exact sv28 G D
  · exact sv29 G D
  · exact sv30 G D
  · exact sv31 G D
  · exact sv32 G D
  · exact sv33 G D
  · exact sv34 G D
  · exact sv35 G D
  · exact sv36 G D
  · exact sv37 G D
  · exact sv38 G D
  · exact sv39 G D
  · exact sv40 G D
  · exact sv41 G D
  · exact sv42 G D
  · exact sv43 G D
  · exact sv44 G D
  · exact sv45 G D
  · exact sv46 G D
  · exact sv47 G D
  · exact sv48 G D
  · exact sv49 G D
  · exact sv50 G D
  · exact sv51 G D
  · exact sv52 G D
  · exact sv53 G D
  · exact sv54 G D
  · exact sv55 G D
  · exact sv56 G D
  · exact sv57 G D
  · exact sv58 G D
  · exact sv59 G D
  · exact sv60 G D
  · exact sv61 G D
  · exact sv62 G D
  · exact sv63 G D
  · exact sv64 G D
  · exact sv65 G D
  · exact sv66 G D
  · exact sv67 G D
  · exact sv68 G D
  · exact sv69 G D, ⟨fun sm h => by
  simp only [List.mem_cons, List.not_mem_nil, or_false] at h
  rcases h with rfl
  · exact sv0 G D, trivial⟩⟩⟩
noncomputable def M95 : TT (SV × SP) := evFnD (cfgT F (fun _ => none) hpE T95) 2000 85 (patAs 0 [(false, [(.lit (.int .u32 (.lit 1075872179)))])]) ⟨hpE, []⟩
def spc95 : PC := []
def r95_0c0 : RT := (.leaf (.tuple [(.agg [(.int .i64 (.lit 29)), (.int .i64 (.lit 3)), (.int .i64 (.lit 1)), (.int .i64 (.lit 2)), (.int .i64 (.lit 0)), (.int .u32 (.lit 0)), (.bool (.lit false)), (.bool (.lit false))]), (.bool (.lit true))]))
theorem r95_0k0 : r95_0c0.ok 0 M95 spc95 = true := by kernel_rfl
def sm95 : Sm := ⟨[(false, [(.lit (.int .u32 (.lit 1075872179)))])], false, r95_0c0⟩
theorem sv95 (G : Nat → Option Nat) (D : Hp) : SmValid Tryz.prog (GofSm G sm95) (DofSm D sm95) 85 sm95 := smValid0 (T := T95) (fuel := 2000) mixed hF (VT95 _ _) rfl r95_0k0
def TL : List (Nat × List Sm) := [(85, [sm70, sm71, sm72, sm73, sm74, sm75, sm76, sm77, sm78, sm79, sm80, sm81, sm82, sm83, sm84, sm85, sm86, sm87, sm88, sm89, sm90, sm91, sm92, sm93, sm94, sm95]), (120, [sm1, sm2, sm3, sm4, sm5, sm6, sm7, sm8, sm9, sm10, sm11, sm12, sm13, sm14, sm15, sm16, sm17, sm18, sm19, sm20, sm21, sm22, sm23, sm24, sm25, sm26, sm27, sm28, sm29, sm30, sm31, sm32, sm33, sm34, sm35, sm36, sm37, sm38, sm39, sm40, sm41, sm42, sm43, sm44, sm45, sm46, sm47, sm48, sm49, sm50, sm51, sm52, sm53, sm54, sm55, sm56, sm57, sm58, sm59, sm60, sm61, sm62, sm63, sm64, sm65, sm66, sm67, sm68, sm69]), (151, [sm0])]
theorem VTL : AllV Tryz.prog G doorH TL := ⟨fun sm h => by
  simp only [List.mem_cons, List.not_mem_nil, or_false] at h
  rcases h with rfl | rfl | rfl | rfl | rfl | rfl | rfl | rfl | rfl | rfl | rfl | rfl | rfl | rfl | rfl | rfl | rfl | rfl | rfl | rfl | rfl | rfl | rfl | rfl | rfl | rfl
  · exact sv70 G doorH
  · exact sv71 G doorH
  · exact sv72 G doorH
  · exact sv73 G doorH
  · exact sv74 G doorH
  · exact sv75 G doorH
  · exact sv76 G doorH
  · exact sv77 G doorH
  · exact sv78 G doorH
  · exact sv79 G doorH
  · exact sv80 G doorH
  · exact sv81 G doorH
  · exact sv82 G doorH
  · exact sv83 G doorH
  · exact sv84 G doorH
  · exact sv85 G doorH
  · exact sv86 G doorH
  · exact sv87 G doorH
  · exact sv88 G doorH
  · exact sv89 G doorH
  · exact sv90 G doorH
  · exact sv91 G doorH
  · exact sv92 G doorH
  · exact sv93 G doorH
  · exact sv94 G doorH
  · exact sv95 G doorH, ⟨fun sm h => by
  simp only [List.mem_cons, List.not_mem_nil, or_false] at h
  rcases h with rfl | rfl | rfl | rfl | rfl | rfl | rfl | rfl | rfl | rfl | rfl | rfl | rfl | rfl | rfl | rfl | rfl | rfl | rfl | rfl | rfl | rfl | rfl | rfl | rfl | rfl | rfl | rfl | rfl | rfl | rfl | rfl | rfl | rfl | rfl | rfl | rfl | rfl | rfl | rfl | rfl | rfl | rfl | rfl | rfl | rfl | rfl | rfl | rfl | rfl | rfl | rfl | rfl | rfl | rfl | rfl | rfl | rfl | rfl | rfl | rfl | rfl | rfl | rfl | rfl | rfl | rfl | rfl | rfl
  · exact sv1 G doorH
  · exact sv2 G doorH
  · exact sv3 G doorH
  · exact sv4 G doorH
  · exact sv5 G doorH
  · exact sv6 G doorH
  · exact sv7 G doorH
  · exact sv8 G doorH
  · exact sv9 G doorH
  · exact sv10 G doorH
  · exact sv11 G doorH
  · exact sv12 G doorH
  · exact sv13 G doorH
  · exact sv14 G doorH
  · exact sv15 G doorH
  · exact sv16 G doorH
  · exact sv17 G doorH
  · exact sv18 G doorH
  · exact sv19 G doorH
  · exact sv20 G doorH
  · exact sv21 G doorH
  · exact sv22 G doorH
  · exact sv23 G doorH
  · exact sv24 G doorH
  · exact sv25 G doorH
  · exact sv26 G doorH
  · exact sv27 G doorH
  · exact sv28 G doorH
  · exact sv29 G doorH
  · exact sv30 G doorH
  · exact sv31 G doorH
  · exact sv32 G doorH
  · exact sv33 G doorH
  · exact sv34 G doorH
  · exact sv35 G doorH
  · exact sv36 G doorH
  · exact sv37 G doorH
  · exact sv38 G doorH
  · exact sv39 G doorH
  · exact sv40 G doorH
  · exact sv41 G doorH
  · exact sv42 G doorH
  · exact sv43 G doorH
  · exact sv44 G doorH
  · exact sv45 G doorH
  · exact sv46 G doorH
  · exact sv47 G doorH
  · exact sv48 G doorH
  · exact sv49 G doorH
  · exact sv50 G doorH
  · exact sv51 G doorH
  · exact sv52 G doorH
  · exact sv53 G doorH
  · exact sv54 G doorH
  · exact sv55 G doorH
  · exact sv56 G doorH
  · exact sv57 G doorH
  · exact sv58 G doorH
  · exact sv59 G doorH
  · exact sv60 G doorH
  · exact sv61 G doorH
  · exact sv62 G doorH
  · exact sv63 G doorH
  · exact sv64 G doorH
  · exact sv65 G doorH
  · exact sv66 G doorH
  · exact sv67 G doorH
  · exact sv68 G doorH
  · exact sv69 G doorH, ⟨fun sm h => by
  simp only [List.mem_cons, List.not_mem_nil, or_false] at h
  rcases h with rfl
  · exact sv0 G doorH, trivial⟩⟩⟩
noncomputable def CL : Cfg := cfgT F G doorH TL
end Go.Proofs.YtlpmhfgcbfjpfaaGreatDoor.hartReckons

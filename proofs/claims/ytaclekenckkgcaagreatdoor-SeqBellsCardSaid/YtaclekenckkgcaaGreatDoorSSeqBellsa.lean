/- Summaries of functions that SeqBells comes to, held against their runs. No condition. -/
import Derived.Test.YtaclekenckkgcaaGreatDoorFSeqBells
namespace Go.Proofs.YtaclekenckkgcaaGreatDoor.seqBells
open Go.Sx
set_option linter.unusedVariables false
set_option linter.unusedSimpArgs false
set_option maxRecDepth 1000000
def T0 : List (Nat × List Sm) := []
theorem VT0 (G : Nat → Option Nat) (D : Hp) : AllV Tryz.prog G D T0 := trivial
noncomputable def M0 : TT (SV × SP) := evFnD (cfgT F (fun _ => none) hpE T0) 2000 78 (patAs 0 [(false, [(.lit (.int .i64 (.lit 19)))])]) ⟨hpE, []⟩
def spc0 : PC := []
def r0_0c0 : RT := (.leaf (.int .i64 (.lit 1)))
theorem r0_0k0 : r0_0c0.ok 0 M0 spc0 = true := by kernel_rfl
def sm0 : Sm := ⟨[(false, [(.lit (.int .i64 (.lit 19)))])], false, r0_0c0⟩
theorem sv0 (G : Nat → Option Nat) (D : Hp) : SmValid Tryz.prog (GofSm G sm0) (DofSm D sm0) 78 sm0 := smValid0 (T := T0) (fuel := 2000) mixed hF (VT0 _ _) rfl r0_0k0
def T1 : List (Nat × List Sm) := [(78, [sm0])]
theorem VT1 (G : Nat → Option Nat) (D : Hp) : AllV Tryz.prog G D T1 := ⟨fun sm h => by
  simp only [List.mem_cons, List.not_mem_nil, or_false] at h
  rcases h with rfl
  · exact sv0 G D, trivial⟩
noncomputable def M1 : TT (SV × SP) := evFnD (cfgT F (fun _ => none) hpE T1) 2000 78 (patAs 0 [(false, [(.lit (.int .i64 (.lit 18)))])]) ⟨hpE, []⟩
def spc1 : PC := []
def r1_0c0 : RT := (.leaf (.int .i64 (.lit 5)))
theorem r1_0k0 : r1_0c0.ok 0 M1 spc1 = true := by kernel_rfl
def sm1 : Sm := ⟨[(false, [(.lit (.int .i64 (.lit 18)))])], false, r1_0c0⟩
theorem sv1 (G : Nat → Option Nat) (D : Hp) : SmValid Tryz.prog (GofSm G sm1) (DofSm D sm1) 78 sm1 := smValid0 (T := T1) (fuel := 2000) mixed hF (VT1 _ _) rfl r1_0k0
def T2 : List (Nat × List Sm) := [(78, [sm0, sm1])]
theorem VT2 (G : Nat → Option Nat) (D : Hp) : AllV Tryz.prog G D T2 := ⟨fun sm h => by
  simp only [List.mem_cons, List.not_mem_nil, or_false] at h
  rcases h with rfl | rfl
  · exact sv0 G D
  · exact sv1 G D, trivial⟩
noncomputable def M2 : TT (SV × SP) := evFnD (cfgT F (fun _ => none) hpE T2) 2000 78 (patAs 0 [(false, [(.lit (.int .i64 (.lit 46)))])]) ⟨hpE, []⟩
def spc2 : PC := []
def r2_0c0 : RT := (.leaf (.int .i64 (.lit 7)))
theorem r2_0k0 : r2_0c0.ok 0 M2 spc2 = true := by kernel_rfl
def sm2 : Sm := ⟨[(false, [(.lit (.int .i64 (.lit 46)))])], false, r2_0c0⟩
theorem sv2 (G : Nat → Option Nat) (D : Hp) : SmValid Tryz.prog (GofSm G sm2) (DofSm D sm2) 78 sm2 := smValid0 (T := T2) (fuel := 2000) mixed hF (VT2 _ _) rfl r2_0k0
def T3 : List (Nat × List Sm) := [(78, [sm0, sm1, sm2])]
theorem VT3 (G : Nat → Option Nat) (D : Hp) : AllV Tryz.prog G D T3 := ⟨fun sm h => by
  simp only [List.mem_cons, List.not_mem_nil, or_false] at h
  rcases h with rfl | rfl | rfl
  · exact sv0 G D
  · exact sv1 G D
  · exact sv2 G D, trivial⟩
noncomputable def M3 : TT (SV × SP) := evFnD (cfgT F (fun _ => none) hpE T3) 2000 78 (patAs 0 [(false, [(.lit (.int .i64 (.lit 6)))])]) ⟨hpE, []⟩
def spc3 : PC := []
def r3_0c0 : RT := (.leaf (.int .i64 (.lit 3)))
theorem r3_0k0 : r3_0c0.ok 0 M3 spc3 = true := by kernel_rfl
def sm3 : Sm := ⟨[(false, [(.lit (.int .i64 (.lit 6)))])], false, r3_0c0⟩
theorem sv3 (G : Nat → Option Nat) (D : Hp) : SmValid Tryz.prog (GofSm G sm3) (DofSm D sm3) 78 sm3 := smValid0 (T := T3) (fuel := 2000) mixed hF (VT3 _ _) rfl r3_0k0
def T4 : List (Nat × List Sm) := [(78, [sm0, sm1, sm2, sm3])]
theorem VT4 (G : Nat → Option Nat) (D : Hp) : AllV Tryz.prog G D T4 := ⟨fun sm h => by
  simp only [List.mem_cons, List.not_mem_nil, or_false] at h
  rcases h with rfl | rfl | rfl | rfl
  · exact sv0 G D
  · exact sv1 G D
  · exact sv2 G D
  · exact sv3 G D, trivial⟩
noncomputable def M4 : TT (SV × SP) := evFnD (cfgT F (fun _ => none) hpE T4) 2000 78 (patAs 0 [(false, [(.lit (.int .i64 (.lit 48)))])]) ⟨hpE, []⟩
def spc4 : PC := []
def r4_0c0 : RT := (.leaf (.int .i64 (.lit 7)))
theorem r4_0k0 : r4_0c0.ok 0 M4 spc4 = true := by kernel_rfl
def sm4 : Sm := ⟨[(false, [(.lit (.int .i64 (.lit 48)))])], false, r4_0c0⟩
theorem sv4 (G : Nat → Option Nat) (D : Hp) : SmValid Tryz.prog (GofSm G sm4) (DofSm D sm4) 78 sm4 := smValid0 (T := T4) (fuel := 2000) mixed hF (VT4 _ _) rfl r4_0k0
def T5 : List (Nat × List Sm) := [(78, [sm0, sm1, sm2, sm3, sm4])]
theorem VT5 (G : Nat → Option Nat) (D : Hp) : AllV Tryz.prog G D T5 := ⟨fun sm h => by
  simp only [List.mem_cons, List.not_mem_nil, or_false] at h
  rcases h with rfl | rfl | rfl | rfl | rfl
  · exact sv0 G D
  · exact sv1 G D
  · exact sv2 G D
  · exact sv3 G D
  · exact sv4 G D, trivial⟩
noncomputable def M5 : TT (SV × SP) := evFnD (cfgT F (fun _ => none) hpE T5) 2000 78 (patAs 0 [(false, [(.lit (.int .i64 (.lit 43)))])]) ⟨hpE, []⟩
def spc5 : PC := []
def r5_0c0 : RT := (.leaf (.int .i64 (.lit 7)))
theorem r5_0k0 : r5_0c0.ok 0 M5 spc5 = true := by kernel_rfl
def sm5 : Sm := ⟨[(false, [(.lit (.int .i64 (.lit 43)))])], false, r5_0c0⟩
theorem sv5 (G : Nat → Option Nat) (D : Hp) : SmValid Tryz.prog (GofSm G sm5) (DofSm D sm5) 78 sm5 := smValid0 (T := T5) (fuel := 2000) mixed hF (VT5 _ _) rfl r5_0k0
def T6 : List (Nat × List Sm) := [(78, [sm0, sm1, sm2, sm3, sm4, sm5])]
theorem VT6 (G : Nat → Option Nat) (D : Hp) : AllV Tryz.prog G D T6 := ⟨fun sm h => by
  simp only [List.mem_cons, List.not_mem_nil, or_false] at h
  rcases h with rfl | rfl | rfl | rfl | rfl | rfl
  · exact sv0 G D
  · exact sv1 G D
  · exact sv2 G D
  · exact sv3 G D
  · exact sv4 G D
  · exact sv5 G D, trivial⟩
noncomputable def M6 : TT (SV × SP) := evFnD (cfgT F (fun _ => none) hpE T6) 2000 78 (patAs 0 [(false, [(.lit (.int .i64 (.lit 13)))])]) ⟨hpE, []⟩
def spc6 : PC := []
def r6_0c0 : RT := (.leaf (.int .i64 (.lit 4)))
theorem r6_0k0 : r6_0c0.ok 0 M6 spc6 = true := by kernel_rfl
def sm6 : Sm := ⟨[(false, [(.lit (.int .i64 (.lit 13)))])], false, r6_0c0⟩
theorem sv6 (G : Nat → Option Nat) (D : Hp) : SmValid Tryz.prog (GofSm G sm6) (DofSm D sm6) 78 sm6 := smValid0 (T := T6) (fuel := 2000) mixed hF (VT6 _ _) rfl r6_0k0
def T7 : List (Nat × List Sm) := [(78, [sm0, sm1, sm2, sm3, sm4, sm5, sm6])]
theorem VT7 (G : Nat → Option Nat) (D : Hp) : AllV Tryz.prog G D T7 := ⟨fun sm h => by
  simp only [List.mem_cons, List.not_mem_nil, or_false] at h
  rcases h with rfl | rfl | rfl | rfl | rfl | rfl | rfl
  · exact sv0 G D
  · exact sv1 G D
  · exact sv2 G D
  · exact sv3 G D
  · exact sv4 G D
  · exact sv5 G D
  · exact sv6 G D, trivial⟩
noncomputable def M7 : TT (SV × SP) := evFnD (cfgT F (fun _ => none) hpE T7) 2000 78 (patAs 0 [(false, [(.lit (.int .i64 (.lit 1)))])]) ⟨hpE, []⟩
def spc7 : PC := []
def r7_0c0 : RT := (.leaf (.int .i64 (.lit 1)))
theorem r7_0k0 : r7_0c0.ok 0 M7 spc7 = true := by kernel_rfl
def sm7 : Sm := ⟨[(false, [(.lit (.int .i64 (.lit 1)))])], false, r7_0c0⟩
theorem sv7 (G : Nat → Option Nat) (D : Hp) : SmValid Tryz.prog (GofSm G sm7) (DofSm D sm7) 78 sm7 := smValid0 (T := T7) (fuel := 2000) mixed hF (VT7 _ _) rfl r7_0k0
def T8 : List (Nat × List Sm) := [(78, [sm0, sm1, sm2, sm3, sm4, sm5, sm6, sm7])]
theorem VT8 (G : Nat → Option Nat) (D : Hp) : AllV Tryz.prog G D T8 := ⟨fun sm h => by
  simp only [List.mem_cons, List.not_mem_nil, or_false] at h
  rcases h with rfl | rfl | rfl | rfl | rfl | rfl | rfl | rfl
  · exact sv0 G D
  · exact sv1 G D
  · exact sv2 G D
  · exact sv3 G D
  · exact sv4 G D
  · exact sv5 G D
  · exact sv6 G D
  · exact sv7 G D, trivial⟩
noncomputable def M8 : TT (SV × SP) := evFnD (cfgT F (fun _ => none) hpE T8) 2000 57 (patAs 0 [(false, [(.lit (.int .u32 (.lit 5243027)))])]) ⟨hpE, []⟩
def spc8 : PC := []
def r8_0c0 : RT := (.leaf (.tuple [(.agg [(.int .i64 (.lit 19)), (.int .i64 (.lit 1)), (.int .i64 (.lit 0)), (.int .i64 (.lit 0)), (.int .i64 (.lit 0)), (.int .u32 (.lit 5)), (.bool (.lit false)), (.bool (.lit false))]), (.bool (.lit true))]))
theorem r8_0k0 : r8_0c0.ok 0 M8 spc8 = true := by kernel_rfl
def sm8 : Sm := ⟨[(false, [(.lit (.int .u32 (.lit 5243027)))])], false, r8_0c0⟩
theorem sv8 (G : Nat → Option Nat) (D : Hp) : SmValid Tryz.prog (GofSm G sm8) (DofSm D sm8) 57 sm8 := smValid0 (T := T8) (fuel := 2000) mixed hF (VT8 _ _) rfl r8_0k0
def T9 : List (Nat × List Sm) := [(57, [sm8]), (78, [sm0, sm1, sm2, sm3, sm4, sm5, sm6, sm7])]
theorem VT9 (G : Nat → Option Nat) (D : Hp) : AllV Tryz.prog G D T9 := ⟨fun sm h => by
  simp only [List.mem_cons, List.not_mem_nil, or_false] at h
  rcases h with rfl
  · exact sv8 G D, ⟨fun sm h => by
  simp only [List.mem_cons, List.not_mem_nil, or_false] at h
  rcases h with rfl | rfl | rfl | rfl | rfl | rfl | rfl | rfl
  · exact sv0 G D
  · exact sv1 G D
  · exact sv2 G D
  · exact sv3 G D
  · exact sv4 G D
  · exact sv5 G D
  · exact sv6 G D
  · exact sv7 G D, trivial⟩⟩
noncomputable def M9 : TT (SV × SP) := evFnD (cfgT F (fun _ => none) hpE T9) 2000 57 (patAs 0 [(false, [(.lit (.int .u32 (.lit 68165667)))])]) ⟨hpE, []⟩
def spc9 : PC := []
def r9_0c0 : RT := (.leaf (.tuple [(.agg [(.int .i64 (.lit 18)), (.int .i64 (.lit 0)), (.int .i64 (.lit 0)), (.int .i64 (.lit 1)), (.int .i64 (.lit 0)), (.int .u32 (.lit 64)), (.bool (.lit false)), (.bool (.lit false))]), (.bool (.lit true))]))
theorem r9_0k0 : r9_0c0.ok 0 M9 spc9 = true := by kernel_rfl
def sm9 : Sm := ⟨[(false, [(.lit (.int .u32 (.lit 68165667)))])], false, r9_0c0⟩
theorem sv9 (G : Nat → Option Nat) (D : Hp) : SmValid Tryz.prog (GofSm G sm9) (DofSm D sm9) 57 sm9 := smValid0 (T := T9) (fuel := 2000) mixed hF (VT9 _ _) rfl r9_0k0
def T10 : List (Nat × List Sm) := [(57, [sm8, sm9]), (78, [sm0, sm1, sm2, sm3, sm4, sm5, sm6, sm7])]
theorem VT10 (G : Nat → Option Nat) (D : Hp) : AllV Tryz.prog G D T10 := ⟨fun sm h => by
  simp only [List.mem_cons, List.not_mem_nil, or_false] at h
  rcases h with rfl | rfl
  · exact sv8 G D
  · exact sv9 G D, ⟨fun sm h => by
  simp only [List.mem_cons, List.not_mem_nil, or_false] at h
  rcases h with rfl | rfl | rfl | rfl | rfl | rfl | rfl | rfl
  · exact sv0 G D
  · exact sv1 G D
  · exact sv2 G D
  · exact sv3 G D
  · exact sv4 G D
  · exact sv5 G D
  · exact sv6 G D
  · exact sv7 G D, trivial⟩⟩
noncomputable def M10 : TT (SV × SP) := evFnD (cfgT F (fun _ => none) hpE T10) 2000 57 (patAs 0 [(false, [(.lit (.int .u32 (.lit 4047511795)))])]) ⟨hpE, []⟩
def spc10 : PC := []
def r10_0c0 : RT := (.leaf (.tuple [(.agg [(.int .i64 (.lit 46)), (.int .i64 (.lit 1)), (.int .i64 (.lit 0)), (.int .i64 (.lit 0)), (.int .i64 (.lit 3860)), (.int .u32 (.lit 0)), (.bool (.lit false)), (.bool (.lit false))]), (.bool (.lit true))]))
theorem r10_0k0 : r10_0c0.ok 0 M10 spc10 = true := by kernel_rfl
def sm10 : Sm := ⟨[(false, [(.lit (.int .u32 (.lit 4047511795)))])], false, r10_0c0⟩
theorem sv10 (G : Nat → Option Nat) (D : Hp) : SmValid Tryz.prog (GofSm G sm10) (DofSm D sm10) 57 sm10 := smValid0 (T := T10) (fuel := 2000) mixed hF (VT10 _ _) rfl r10_0k0
def T11 : List (Nat × List Sm) := [(57, [sm8, sm9, sm10]), (78, [sm0, sm1, sm2, sm3, sm4, sm5, sm6, sm7])]
theorem VT11 (G : Nat → Option Nat) (D : Hp) : AllV Tryz.prog G D T11 := ⟨fun sm h => by
  simp only [List.mem_cons, List.not_mem_nil, or_false] at h
  rcases h with rfl | rfl | rfl
  · exact sv8 G D
  · exact sv9 G D
  · exact sv10 G D, ⟨fun sm h => by
  simp only [List.mem_cons, List.not_mem_nil, or_false] at h
  rcases h with rfl | rfl | rfl | rfl | rfl | rfl | rfl | rfl
  · exact sv0 G D
  · exact sv1 G D
  · exact sv2 G D
  · exact sv3 G D
  · exact sv4 G D
  · exact sv5 G D
  · exact sv6 G D
  · exact sv7 G D, trivial⟩⟩
noncomputable def M11 : TT (SV × SP) := evFnD (cfgT F (fun _ => none) hpE T11) 2000 57 (patAs 0 [(false, [(.lit (.int .u32 (.lit 39523)))])]) ⟨hpE, []⟩
def spc11 : PC := []
def r11_0c0 : RT := (.leaf (.tuple [(.agg [(.int .i64 (.lit 6)), (.int .i64 (.lit 0)), (.int .i64 (.lit 1)), (.int .i64 (.lit 0)), (.int .i64 (.lit 0)), (.int .u32 (.lit 20)), (.bool (.lit false)), (.bool (.lit false))]), (.bool (.lit true))]))
theorem r11_0k0 : r11_0c0.ok 0 M11 spc11 = true := by kernel_rfl
def sm11 : Sm := ⟨[(false, [(.lit (.int .u32 (.lit 39523)))])], false, r11_0c0⟩
theorem sv11 (G : Nat → Option Nat) (D : Hp) : SmValid Tryz.prog (GofSm G sm11) (DofSm D sm11) 57 sm11 := smValid0 (T := T11) (fuel := 2000) mixed hF (VT11 _ _) rfl r11_0k0
def T12 : List (Nat × List Sm) := [(57, [sm8, sm9, sm10, sm11]), (78, [sm0, sm1, sm2, sm3, sm4, sm5, sm6, sm7])]
theorem VT12 (G : Nat → Option Nat) (D : Hp) : AllV Tryz.prog G D T12 := ⟨fun sm h => by
  simp only [List.mem_cons, List.not_mem_nil, or_false] at h
  rcases h with rfl | rfl | rfl | rfl
  · exact sv8 G D
  · exact sv9 G D
  · exact sv10 G D
  · exact sv11 G D, ⟨fun sm h => by
  simp only [List.mem_cons, List.not_mem_nil, or_false] at h
  rcases h with rfl | rfl | rfl | rfl | rfl | rfl | rfl | rfl
  · exact sv0 G D
  · exact sv1 G D
  · exact sv2 G D
  · exact sv3 G D
  · exact sv4 G D
  · exact sv5 G D
  · exact sv6 G D
  · exact sv7 G D, trivial⟩⟩
noncomputable def M12 : TT (SV × SP) := evFnD (cfgT F (fun _ => none) hpE T12) 2000 57 (patAs 0 [(false, [(.lit (.int .u32 (.lit 809783411)))])]) ⟨hpE, []⟩
def spc12 : PC := []
def r12_0c0 : RT := (.leaf (.tuple [(.agg [(.int .i64 (.lit 48)), (.int .i64 (.lit 0)), (.int .i64 (.lit 0)), (.int .i64 (.lit 0)), (.int .i64 (.lit 772)), (.int .u32 (.lit 8)), (.bool (.lit false)), (.bool (.lit false))]), (.bool (.lit true))]))
theorem r12_0k0 : r12_0c0.ok 0 M12 spc12 = true := by kernel_rfl
def sm12 : Sm := ⟨[(false, [(.lit (.int .u32 (.lit 809783411)))])], false, r12_0c0⟩
theorem sv12 (G : Nat → Option Nat) (D : Hp) : SmValid Tryz.prog (GofSm G sm12) (DofSm D sm12) 57 sm12 := smValid0 (T := T12) (fuel := 2000) mixed hF (VT12 _ _) rfl r12_0k0
def T13 : List (Nat × List Sm) := [(57, [sm8, sm9, sm10, sm11, sm12]), (78, [sm0, sm1, sm2, sm3, sm4, sm5, sm6, sm7])]
theorem VT13 (G : Nat → Option Nat) (D : Hp) : AllV Tryz.prog G D T13 := ⟨fun sm h => by
  simp only [List.mem_cons, List.not_mem_nil, or_false] at h
  rcases h with rfl | rfl | rfl | rfl | rfl
  · exact sv8 G D
  · exact sv9 G D
  · exact sv10 G D
  · exact sv11 G D
  · exact sv12 G D, ⟨fun sm h => by
  simp only [List.mem_cons, List.not_mem_nil, or_false] at h
  rcases h with rfl | rfl | rfl | rfl | rfl | rfl | rfl | rfl
  · exact sv0 G D
  · exact sv1 G D
  · exact sv2 G D
  · exact sv3 G D
  · exact sv4 G D
  · exact sv5 G D
  · exact sv6 G D
  · exact sv7 G D, trivial⟩⟩
noncomputable def M13 : TT (SV × SP) := evFnD (cfgT F (fun _ => none) hpE T13) 2000 57 (patAs 0 [(false, [(.lit (.int .u32 (.lit 805589107)))])]) ⟨hpE, []⟩
def spc13 : PC := []
def r13_0c0 : RT := (.leaf (.tuple [(.agg [(.int .i64 (.lit 48)), (.int .i64 (.lit 0)), (.int .i64 (.lit 0)), (.int .i64 (.lit 0)), (.int .i64 (.lit 768)), (.int .u32 (.lit 8)), (.bool (.lit false)), (.bool (.lit false))]), (.bool (.lit true))]))
theorem r13_0k0 : r13_0c0.ok 0 M13 spc13 = true := by kernel_rfl
def sm13 : Sm := ⟨[(false, [(.lit (.int .u32 (.lit 805589107)))])], false, r13_0c0⟩
theorem sv13 (G : Nat → Option Nat) (D : Hp) : SmValid Tryz.prog (GofSm G sm13) (DofSm D sm13) 57 sm13 := smValid0 (T := T13) (fuel := 2000) mixed hF (VT13 _ _) rfl r13_0k0
def T14 : List (Nat × List Sm) := [(57, [sm8, sm9, sm10, sm11, sm12, sm13]), (78, [sm0, sm1, sm2, sm3, sm4, sm5, sm6, sm7])]
theorem VT14 (G : Nat → Option Nat) (D : Hp) : AllV Tryz.prog G D T14 := ⟨fun sm h => by
  simp only [List.mem_cons, List.not_mem_nil, or_false] at h
  rcases h with rfl | rfl | rfl | rfl | rfl | rfl
  · exact sv8 G D
  · exact sv9 G D
  · exact sv10 G D
  · exact sv11 G D
  · exact sv12 G D
  · exact sv13 G D, ⟨fun sm h => by
  simp only [List.mem_cons, List.not_mem_nil, or_false] at h
  rcases h with rfl | rfl | rfl | rfl | rfl | rfl | rfl | rfl
  · exact sv0 G D
  · exact sv1 G D
  · exact sv2 G D
  · exact sv3 G D
  · exact sv4 G D
  · exact sv5 G D
  · exact sv6 G D
  · exact sv7 G D, trivial⟩⟩
noncomputable def M14 : TT (SV × SP) := evFnD (cfgT F (fun _ => none) hpE T14) 2000 57 (patAs 0 [(false, [(.lit (.int .u32 (.lit 811094131)))])]) ⟨hpE, []⟩
def spc14 : PC := []
def r14_0c0 : RT := (.leaf (.tuple [(.agg [(.int .i64 (.lit 48)), (.int .i64 (.lit 0)), (.int .i64 (.lit 0)), (.int .i64 (.lit 0)), (.int .i64 (.lit 773)), (.int .u32 (.lit 16)), (.bool (.lit false)), (.bool (.lit false))]), (.bool (.lit true))]))
theorem r14_0k0 : r14_0c0.ok 0 M14 spc14 = true := by kernel_rfl
def sm14 : Sm := ⟨[(false, [(.lit (.int .u32 (.lit 811094131)))])], false, r14_0c0⟩
theorem sv14 (G : Nat → Option Nat) (D : Hp) : SmValid Tryz.prog (GofSm G sm14) (DofSm D sm14) 57 sm14 := smValid0 (T := T14) (fuel := 2000) mixed hF (VT14 _ _) rfl r14_0k0
def T15 : List (Nat × List Sm) := [(57, [sm8, sm9, sm10, sm11, sm12, sm13, sm14]), (78, [sm0, sm1, sm2, sm3, sm4, sm5, sm6, sm7])]
theorem VT15 (G : Nat → Option Nat) (D : Hp) : AllV Tryz.prog G D T15 := ⟨fun sm h => by
  simp only [List.mem_cons, List.not_mem_nil, or_false] at h
  rcases h with rfl | rfl | rfl | rfl | rfl | rfl | rfl
  · exact sv8 G D
  · exact sv9 G D
  · exact sv10 G D
  · exact sv11 G D
  · exact sv12 G D
  · exact sv13 G D
  · exact sv14 G D, ⟨fun sm h => by
  simp only [List.mem_cons, List.not_mem_nil, or_false] at h
  rcases h with rfl | rfl | rfl | rfl | rfl | rfl | rfl | rfl
  · exact sv0 G D
  · exact sv1 G D
  · exact sv2 G D
  · exact sv3 G D
  · exact sv4 G D
  · exact sv5 G D
  · exact sv6 G D
  · exact sv7 G D, trivial⟩⟩
noncomputable def M15 : TT (SV × SP) := evFnD (cfgT F (fun _ => none) hpE T15) 2000 57 (patAs 0 [(false, [(.lit (.int .u32 (.lit 273678451)))])]) ⟨hpE, []⟩
def spc15 : PC := []
def r15_0c0 : RT := (.leaf (.tuple [(.agg [(.int .i64 (.lit 43)), (.int .i64 (.lit 0)), (.int .i64 (.lit 0)), (.int .i64 (.lit 0)), (.int .i64 (.lit 0)), (.int .u32 (.lit 0)), (.bool (.lit false)), (.bool (.lit false))]), (.bool (.lit true))]))
theorem r15_0k0 : r15_0c0.ok 0 M15 spc15 = true := by kernel_rfl
def sm15 : Sm := ⟨[(false, [(.lit (.int .u32 (.lit 273678451)))])], false, r15_0c0⟩
theorem sv15 (G : Nat → Option Nat) (D : Hp) : SmValid Tryz.prog (GofSm G sm15) (DofSm D sm15) 57 sm15 := smValid0 (T := T15) (fuel := 2000) mixed hF (VT15 _ _) rfl r15_0k0
def T16 : List (Nat × List Sm) := [(57, [sm8, sm9, sm10, sm11, sm12, sm13, sm14, sm15]), (78, [sm0, sm1, sm2, sm3, sm4, sm5, sm6, sm7])]
theorem VT16 (G : Nat → Option Nat) (D : Hp) : AllV Tryz.prog G D T16 := ⟨fun sm h => by
  simp only [List.mem_cons, List.not_mem_nil, or_false] at h
  rcases h with rfl | rfl | rfl | rfl | rfl | rfl | rfl | rfl
  · exact sv8 G D
  · exact sv9 G D
  · exact sv10 G D
  · exact sv11 G D
  · exact sv12 G D
  · exact sv13 G D
  · exact sv14 G D
  · exact sv15 G D, ⟨fun sm h => by
  simp only [List.mem_cons, List.not_mem_nil, or_false] at h
  rcases h with rfl | rfl | rfl | rfl | rfl | rfl | rfl | rfl
  · exact sv0 G D
  · exact sv1 G D
  · exact sv2 G D
  · exact sv3 G D
  · exact sv4 G D
  · exact sv5 G D
  · exact sv6 G D
  · exact sv7 G D, trivial⟩⟩
noncomputable def M16 : TT (SV × SP) := evFnD (cfgT F (fun _ => none) hpE T16) 2000 57 (patAs 0 [(false, [(.lit (.int .u32 (.lit 62923139)))])]) ⟨hpE, []⟩
def spc16 : PC := []
def r16_0c0 : RT := (.leaf (.tuple [(.agg [(.int .i64 (.lit 13)), (.int .i64 (.lit 3)), (.int .i64 (.lit 0)), (.int .i64 (.lit 0)), (.int .i64 (.lit 0)), (.int .u32 (.lit 60)), (.bool (.lit false)), (.bool (.lit false))]), (.bool (.lit true))]))
theorem r16_0k0 : r16_0c0.ok 0 M16 spc16 = true := by kernel_rfl
def sm16 : Sm := ⟨[(false, [(.lit (.int .u32 (.lit 62923139)))])], false, r16_0c0⟩
theorem sv16 (G : Nat → Option Nat) (D : Hp) : SmValid Tryz.prog (GofSm G sm16) (DofSm D sm16) 57 sm16 := smValid0 (T := T16) (fuel := 2000) mixed hF (VT16 _ _) rfl r16_0k0
def T17 : List (Nat × List Sm) := [(57, [sm8, sm9, sm10, sm11, sm12, sm13, sm14, sm15, sm16]), (78, [sm0, sm1, sm2, sm3, sm4, sm5, sm6, sm7])]
theorem VT17 (G : Nat → Option Nat) (D : Hp) : AllV Tryz.prog G D T17 := ⟨fun sm h => by
  simp only [List.mem_cons, List.not_mem_nil, or_false] at h
  rcases h with rfl | rfl | rfl | rfl | rfl | rfl | rfl | rfl | rfl
  · exact sv8 G D
  · exact sv9 G D
  · exact sv10 G D
  · exact sv11 G D
  · exact sv12 G D
  · exact sv13 G D
  · exact sv14 G D
  · exact sv15 G D
  · exact sv16 G D, ⟨fun sm h => by
  simp only [List.mem_cons, List.not_mem_nil, or_false] at h
  rcases h with rfl | rfl | rfl | rfl | rfl | rfl | rfl | rfl
  · exact sv0 G D
  · exact sv1 G D
  · exact sv2 G D
  · exact sv3 G D
  · exact sv4 G D
  · exact sv5 G D
  · exact sv6 G D
  · exact sv7 G D, trivial⟩⟩
noncomputable def M17 : TT (SV × SP) := evFnD (cfgT F (fun _ => none) hpE T17) 2000 57 (patAs 0 [(false, [(.lit (.int .u32 (.lit 1073742135)))])]) ⟨hpE, []⟩
def spc17 : PC := []
def r17_0c0 : RT := (.leaf (.tuple [(.agg [(.int .i64 (.lit 1)), (.int .i64 (.lit 2)), (.int .i64 (.lit 0)), (.int .i64 (.lit 0)), (.int .i64 (.lit 0)), (.int .u32 (.lit 1073741824)), (.bool (.lit false)), (.bool (.lit false))]), (.bool (.lit true))]))
theorem r17_0k0 : r17_0c0.ok 0 M17 spc17 = true := by kernel_rfl
def sm17 : Sm := ⟨[(false, [(.lit (.int .u32 (.lit 1073742135)))])], false, r17_0c0⟩
theorem sv17 (G : Nat → Option Nat) (D : Hp) : SmValid Tryz.prog (GofSm G sm17) (DofSm D sm17) 57 sm17 := smValid0 (T := T17) (fuel := 2000) mixed hF (VT17 _ _) rfl r17_0k0
def T18 : List (Nat × List Sm) := [(57, [sm8, sm9, sm10, sm11, sm12, sm13, sm14, sm15, sm16, sm17]), (78, [sm0, sm1, sm2, sm3, sm4, sm5, sm6, sm7])]
theorem VT18 (G : Nat → Option Nat) (D : Hp) : AllV Tryz.prog G D T18 := ⟨fun sm h => by
  simp only [List.mem_cons, List.not_mem_nil, or_false] at h
  rcases h with rfl | rfl | rfl | rfl | rfl | rfl | rfl | rfl | rfl | rfl
  · exact sv8 G D
  · exact sv9 G D
  · exact sv10 G D
  · exact sv11 G D
  · exact sv12 G D
  · exact sv13 G D
  · exact sv14 G D
  · exact sv15 G D
  · exact sv16 G D
  · exact sv17 G D, ⟨fun sm h => by
  simp only [List.mem_cons, List.not_mem_nil, or_false] at h
  rcases h with rfl | rfl | rfl | rfl | rfl | rfl | rfl | rfl
  · exact sv0 G D
  · exact sv1 G D
  · exact sv2 G D
  · exact sv3 G D
  · exact sv4 G D
  · exact sv5 G D
  · exact sv6 G D
  · exact sv7 G D, trivial⟩⟩
noncomputable def M18 : TT (SV × SP) := evFnD (cfgT F (fun _ => none) hpE T18) 2000 57 (patAs 0 [(false, [(.lit (.int .u32 (.lit 3220003)))])]) ⟨hpE, []⟩
def spc18 : PC := []
def r18_0c0 : RT := (.leaf (.tuple [(.agg [(.int .i64 (.lit 18)), (.int .i64 (.lit 0)), (.int .i64 (.lit 2)), (.int .i64 (.lit 3)), (.int .i64 (.lit 0)), (.int .u32 (.lit 4)), (.bool (.lit false)), (.bool (.lit false))]), (.bool (.lit true))]))
theorem r18_0k0 : r18_0c0.ok 0 M18 spc18 = true := by kernel_rfl
def sm18 : Sm := ⟨[(false, [(.lit (.int .u32 (.lit 3220003)))])], false, r18_0c0⟩
theorem sv18 (G : Nat → Option Nat) (D : Hp) : SmValid Tryz.prog (GofSm G sm18) (DofSm D sm18) 57 sm18 := smValid0 (T := T18) (fuel := 2000) mixed hF (VT18 _ _) rfl r18_0k0
def T19 : List (Nat × List Sm) := [(57, [sm8, sm9, sm10, sm11, sm12, sm13, sm14, sm15, sm16, sm17, sm18]), (78, [sm0, sm1, sm2, sm3, sm4, sm5, sm6, sm7])]
theorem VT19 (G : Nat → Option Nat) (D : Hp) : AllV Tryz.prog G D T19 := ⟨fun sm h => by
  simp only [List.mem_cons, List.not_mem_nil, or_false] at h
  rcases h with rfl | rfl | rfl | rfl | rfl | rfl | rfl | rfl | rfl | rfl | rfl
  · exact sv8 G D
  · exact sv9 G D
  · exact sv10 G D
  · exact sv11 G D
  · exact sv12 G D
  · exact sv13 G D
  · exact sv14 G D
  · exact sv15 G D
  · exact sv16 G D
  · exact sv17 G D
  · exact sv18 G D, ⟨fun sm h => by
  simp only [List.mem_cons, List.not_mem_nil, or_false] at h
  rcases h with rfl | rfl | rfl | rfl | rfl | rfl | rfl | rfl
  · exact sv0 G D
  · exact sv1 G D
  · exact sv2 G D
  · exact sv3 G D
  · exact sv4 G D
  · exact sv5 G D
  · exact sv6 G D
  · exact sv7 G D, trivial⟩⟩
noncomputable def M19 : TT (SV × SP) := evFnD (cfgT F (fun _ => none) hpE T19) 2000 57 (patAs 0 [(false, [(.lit (.int .u32 (.lit 0)))])]) ⟨hpE, []⟩
def spc19 : PC := []
def r19_0c0 : RT := (.leaf (.tuple [(.agg [(.int .i64 (.lit 0)), (.int .i64 (.lit 0)), (.int .i64 (.lit 0)), (.int .i64 (.lit 0)), (.int .i64 (.lit 0)), (.int .u32 (.lit 0)), (.bool (.lit false)), (.bool (.lit false))]), (.bool (.lit false))]))
theorem r19_0k0 : r19_0c0.ok 0 M19 spc19 = true := by kernel_rfl
def sm19 : Sm := ⟨[(false, [(.lit (.int .u32 (.lit 0)))])], false, r19_0c0⟩
theorem sv19 (G : Nat → Option Nat) (D : Hp) : SmValid Tryz.prog (GofSm G sm19) (DofSm D sm19) 57 sm19 := smValid0 (T := T19) (fuel := 2000) mixed hF (VT19 _ _) rfl r19_0k0
def T20 : List (Nat × List Sm) := [(57, [sm8, sm9, sm10, sm11, sm12, sm13, sm14, sm15, sm16, sm17, sm18, sm19]), (78, [sm0, sm1, sm2, sm3, sm4, sm5, sm6, sm7])]
theorem VT20 (G : Nat → Option Nat) (D : Hp) : AllV Tryz.prog G D T20 := ⟨fun sm h => by
  simp only [List.mem_cons, List.not_mem_nil, or_false] at h
  rcases h with rfl | rfl | rfl | rfl | rfl | rfl | rfl | rfl | rfl | rfl | rfl | rfl
  · exact sv8 G D
  · exact sv9 G D
  · exact sv10 G D
  · exact sv11 G D
  · exact sv12 G D
  · exact sv13 G D
  · exact sv14 G D
  · exact sv15 G D
  · exact sv16 G D
  · exact sv17 G D
  · exact sv18 G D
  · exact sv19 G D, ⟨fun sm h => by
  simp only [List.mem_cons, List.not_mem_nil, or_false] at h
  rcases h with rfl | rfl | rfl | rfl | rfl | rfl | rfl | rfl
  · exact sv0 G D
  · exact sv1 G D
  · exact sv2 G D
  · exact sv3 G D
  · exact sv4 G D
  · exact sv5 G D
  · exact sv6 G D
  · exact sv7 G D, trivial⟩⟩
noncomputable def M20 : TT (SV × SP) := evFnD (cfgT F (fun _ => none) hpE T20) 2000 57 (patAs 0 [(false, [(.lit (.int .u32 (.lit 805326963)))])]) ⟨hpE, []⟩
def spc20 : PC := []
def r20_0c0 : RT := (.leaf (.tuple [(.agg [(.int .i64 (.lit 48)), (.int .i64 (.lit 0)), (.int .i64 (.lit 0)), (.int .i64 (.lit 0)), (.int .i64 (.lit 768)), (.int .u32 (.lit 0)), (.bool (.lit false)), (.bool (.lit false))]), (.bool (.lit true))]))
theorem r20_0k0 : r20_0c0.ok 0 M20 spc20 = true := by kernel_rfl
def sm20 : Sm := ⟨[(false, [(.lit (.int .u32 (.lit 805326963)))])], false, r20_0c0⟩
theorem sv20 (G : Nat → Option Nat) (D : Hp) : SmValid Tryz.prog (GofSm G sm20) (DofSm D sm20) 57 sm20 := smValid0 (T := T20) (fuel := 2000) mixed hF (VT20 _ _) rfl r20_0k0
def T21 : List (Nat × List Sm) := [(57, [sm8, sm9, sm10, sm11, sm12, sm13, sm14, sm15, sm16, sm17, sm18, sm19, sm20]), (78, [sm0, sm1, sm2, sm3, sm4, sm5, sm6, sm7])]
theorem VT21 (G : Nat → Option Nat) (D : Hp) : AllV Tryz.prog G D T21 := ⟨fun sm h => by
  simp only [List.mem_cons, List.not_mem_nil, or_false] at h
  rcases h with rfl | rfl | rfl | rfl | rfl | rfl | rfl | rfl | rfl | rfl | rfl | rfl | rfl
  · exact sv8 G D
  · exact sv9 G D
  · exact sv10 G D
  · exact sv11 G D
  · exact sv12 G D
  · exact sv13 G D
  · exact sv14 G D
  · exact sv15 G D
  · exact sv16 G D
  · exact sv17 G D
  · exact sv18 G D
  · exact sv19 G D
  · exact sv20 G D, ⟨fun sm h => by
  simp only [List.mem_cons, List.not_mem_nil, or_false] at h
  rcases h with rfl | rfl | rfl | rfl | rfl | rfl | rfl | rfl
  · exact sv0 G D
  · exact sv1 G D
  · exact sv2 G D
  · exact sv3 G D
  · exact sv4 G D
  · exact sv5 G D
  · exact sv6 G D
  · exact sv7 G D, trivial⟩⟩
noncomputable def M21 : TT (SV × SP) := evFnD (cfgT F (fun _ => none) hpE T21) 2000 57 (patAs 0 [(false, [(.lit (.int .u32 (.lit 1213075)))])]) ⟨hpE, []⟩
def spc21 : PC := []
def r21_0c0 : RT := (.leaf (.tuple [(.agg [(.int .i64 (.lit 19)), (.int .i64 (.lit 5)), (.int .i64 (.lit 5)), (.int .i64 (.lit 0)), (.int .i64 (.lit 0)), (.int .u32 (.lit 1)), (.bool (.lit false)), (.bool (.lit false))]), (.bool (.lit true))]))
theorem r21_0k0 : r21_0c0.ok 0 M21 spc21 = true := by kernel_rfl
def sm21 : Sm := ⟨[(false, [(.lit (.int .u32 (.lit 1213075)))])], false, r21_0c0⟩
theorem sv21 (G : Nat → Option Nat) (D : Hp) : SmValid Tryz.prog (GofSm G sm21) (DofSm D sm21) 57 sm21 := smValid0 (T := T21) (fuel := 2000) mixed hF (VT21 _ _) rfl r21_0k0
def T22 : List (Nat × List Sm) := [(57, [sm8, sm9, sm10, sm11, sm12, sm13, sm14, sm15, sm16, sm17, sm18, sm19, sm20, sm21]), (78, [sm0, sm1, sm2, sm3, sm4, sm5, sm6, sm7])]
theorem VT22 (G : Nat → Option Nat) (D : Hp) : AllV Tryz.prog G D T22 := ⟨fun sm h => by
  simp only [List.mem_cons, List.not_mem_nil, or_false] at h
  rcases h with rfl | rfl | rfl | rfl | rfl | rfl | rfl | rfl | rfl | rfl | rfl | rfl | rfl | rfl
  · exact sv8 G D
  · exact sv9 G D
  · exact sv10 G D
  · exact sv11 G D
  · exact sv12 G D
  · exact sv13 G D
  · exact sv14 G D
  · exact sv15 G D
  · exact sv16 G D
  · exact sv17 G D
  · exact sv18 G D
  · exact sv19 G D
  · exact sv20 G D
  · exact sv21 G D, ⟨fun sm h => by
  simp only [List.mem_cons, List.not_mem_nil, or_false] at h
  rcases h with rfl | rfl | rfl | rfl | rfl | rfl | rfl | rfl
  · exact sv0 G D
  · exact sv1 G D
  · exact sv2 G D
  · exact sv3 G D
  · exact sv4 G D
  · exact sv5 G D
  · exact sv6 G D
  · exact sv7 G D, trivial⟩⟩
noncomputable def M22 : TT (SV × SP) := evFnD (cfgT F (fun _ => none) hpE T22) 2000 57 (patAs 0 [(false, [(.lit (.int .u32 (.lit 809521267)))])]) ⟨hpE, []⟩
def spc22 : PC := []
def r22_0c0 : RT := (.leaf (.tuple [(.agg [(.int .i64 (.lit 48)), (.int .i64 (.lit 0)), (.int .i64 (.lit 0)), (.int .i64 (.lit 0)), (.int .i64 (.lit 772)), (.int .u32 (.lit 0)), (.bool (.lit false)), (.bool (.lit false))]), (.bool (.lit true))]))
theorem r22_0k0 : r22_0c0.ok 0 M22 spc22 = true := by kernel_rfl
def sm22 : Sm := ⟨[(false, [(.lit (.int .u32 (.lit 809521267)))])], false, r22_0c0⟩
theorem sv22 (G : Nat → Option Nat) (D : Hp) : SmValid Tryz.prog (GofSm G sm22) (DofSm D sm22) 57 sm22 := smValid0 (T := T22) (fuel := 2000) mixed hF (VT22 _ _) rfl r22_0k0
def T23 : List (Nat × List Sm) := [(57, [sm8, sm9, sm10, sm11, sm12, sm13, sm14, sm15, sm16, sm17, sm18, sm19, sm20, sm21, sm22]), (78, [sm0, sm1, sm2, sm3, sm4, sm5, sm6, sm7])]
theorem VT23 (G : Nat → Option Nat) (D : Hp) : AllV Tryz.prog G D T23 := ⟨fun sm h => by
  simp only [List.mem_cons, List.not_mem_nil, or_false] at h
  rcases h with rfl | rfl | rfl | rfl | rfl | rfl | rfl | rfl | rfl | rfl | rfl | rfl | rfl | rfl | rfl
  · exact sv8 G D
  · exact sv9 G D
  · exact sv10 G D
  · exact sv11 G D
  · exact sv12 G D
  · exact sv13 G D
  · exact sv14 G D
  · exact sv15 G D
  · exact sv16 G D
  · exact sv17 G D
  · exact sv18 G D
  · exact sv19 G D
  · exact sv20 G D
  · exact sv21 G D
  · exact sv22 G D, ⟨fun sm h => by
  simp only [List.mem_cons, List.not_mem_nil, or_false] at h
  rcases h with rfl | rfl | rfl | rfl | rfl | rfl | rfl | rfl
  · exact sv0 G D
  · exact sv1 G D
  · exact sv2 G D
  · exact sv3 G D
  · exact sv4 G D
  · exact sv5 G D
  · exact sv6 G D
  · exact sv7 G D, trivial⟩⟩
noncomputable def M23 : TT (SV × SP) := evFnD (cfgT F (fun _ => none) hpE T23) 2000 9 (patAs 0 [(false, [(.lit (.int .i64 (.lit 19)))]), (false, [(.lit (.int .i64 (.lit 1)))]), (false, [(.lit (.int .i64 (.lit 0)))]), (false, [(.lit (.int .i64 (.lit 0)))]), (false, [(.lit (.int .u32 (.lit 5)))])]) ⟨hpE, []⟩
def spc23 : PC := []
def r23_0c0 : RT := (.leaf (.int .u32 (.lit 5243027)))
theorem r23_0k0 : r23_0c0.ok 0 M23 spc23 = true := by kernel_rfl
def sm23 : Sm := ⟨[(false, [(.lit (.int .i64 (.lit 19)))]), (false, [(.lit (.int .i64 (.lit 1)))]), (false, [(.lit (.int .i64 (.lit 0)))]), (false, [(.lit (.int .i64 (.lit 0)))]), (false, [(.lit (.int .u32 (.lit 5)))])], false, r23_0c0⟩
theorem sv23 (G : Nat → Option Nat) (D : Hp) : SmValid Tryz.prog (GofSm G sm23) (DofSm D sm23) 9 sm23 := smValid0 (T := T23) (fuel := 2000) mixed hF (VT23 _ _) rfl r23_0k0
def T24 : List (Nat × List Sm) := [(9, [sm23]), (57, [sm8, sm9, sm10, sm11, sm12, sm13, sm14, sm15, sm16, sm17, sm18, sm19, sm20, sm21, sm22]), (78, [sm0, sm1, sm2, sm3, sm4, sm5, sm6, sm7])]
theorem VT24 (G : Nat → Option Nat) (D : Hp) : AllV Tryz.prog G D T24 := ⟨fun sm h => by
  simp only [List.mem_cons, List.not_mem_nil, or_false] at h
  rcases h with rfl
  · exact sv23 G D, ⟨fun sm h => by
  simp only [List.mem_cons, List.not_mem_nil, or_false] at h
  rcases h with rfl | rfl | rfl | rfl | rfl | rfl | rfl | rfl | rfl | rfl | rfl | rfl | rfl | rfl | rfl
  · exact sv8 G D
  · exact sv9 G D
  · exact sv10 G D
  · exact sv11 G D
  · exact sv12 G D
  · exact sv13 G D
  · exact sv14 G D
  · exact sv15 G D
  · exact sv16 G D
  · exact sv17 G D
  · exact sv18 G D
  · exact sv19 G D
  · exact sv20 G D
  · exact sv21 G D
  · exact sv22 G D, ⟨fun sm h => by
  simp only [List.mem_cons, List.not_mem_nil, or_false] at h
  rcases h with rfl | rfl | rfl | rfl | rfl | rfl | rfl | rfl
  · exact sv0 G D
  · exact sv1 G D
  · exact sv2 G D
  · exact sv3 G D
  · exact sv4 G D
  · exact sv5 G D
  · exact sv6 G D
  · exact sv7 G D, trivial⟩⟩⟩
noncomputable def M24 : TT (SV × SP) := evFnD (cfgT F (fun _ => none) hpE T24) 2000 9 (patAs 0 [(false, [(.lit (.int .i64 (.lit 18)))]), (false, [(.lit (.int .i64 (.lit 0)))]), (false, [(.lit (.int .i64 (.lit 0)))]), (false, [(.lit (.int .i64 (.lit 1)))]), (false, [(.lit (.int .u32 (.lit 64)))])]) ⟨hpE, []⟩
def spc24 : PC := []
def r24_0c0 : RT := (.leaf (.int .u32 (.lit 68165667)))
theorem r24_0k0 : r24_0c0.ok 0 M24 spc24 = true := by kernel_rfl
def sm24 : Sm := ⟨[(false, [(.lit (.int .i64 (.lit 18)))]), (false, [(.lit (.int .i64 (.lit 0)))]), (false, [(.lit (.int .i64 (.lit 0)))]), (false, [(.lit (.int .i64 (.lit 1)))]), (false, [(.lit (.int .u32 (.lit 64)))])], false, r24_0c0⟩
theorem sv24 (G : Nat → Option Nat) (D : Hp) : SmValid Tryz.prog (GofSm G sm24) (DofSm D sm24) 9 sm24 := smValid0 (T := T24) (fuel := 2000) mixed hF (VT24 _ _) rfl r24_0k0
def T25 : List (Nat × List Sm) := [(9, [sm23, sm24]), (57, [sm8, sm9, sm10, sm11, sm12, sm13, sm14, sm15, sm16, sm17, sm18, sm19, sm20, sm21, sm22]), (78, [sm0, sm1, sm2, sm3, sm4, sm5, sm6, sm7])]
theorem VT25 (G : Nat → Option Nat) (D : Hp) : AllV Tryz.prog G D T25 := ⟨fun sm h => by
  simp only [List.mem_cons, List.not_mem_nil, or_false] at h
  rcases h with rfl | rfl
  · exact sv23 G D
  · exact sv24 G D, ⟨fun sm h => by
  simp only [List.mem_cons, List.not_mem_nil, or_false] at h
  rcases h with rfl | rfl | rfl | rfl | rfl | rfl | rfl | rfl | rfl | rfl | rfl | rfl | rfl | rfl | rfl
  · exact sv8 G D
  · exact sv9 G D
  · exact sv10 G D
  · exact sv11 G D
  · exact sv12 G D
  · exact sv13 G D
  · exact sv14 G D
  · exact sv15 G D
  · exact sv16 G D
  · exact sv17 G D
  · exact sv18 G D
  · exact sv19 G D
  · exact sv20 G D
  · exact sv21 G D
  · exact sv22 G D, ⟨fun sm h => by
  simp only [List.mem_cons, List.not_mem_nil, or_false] at h
  rcases h with rfl | rfl | rfl | rfl | rfl | rfl | rfl | rfl
  · exact sv0 G D
  · exact sv1 G D
  · exact sv2 G D
  · exact sv3 G D
  · exact sv4 G D
  · exact sv5 G D
  · exact sv6 G D
  · exact sv7 G D, trivial⟩⟩⟩
noncomputable def M25 : TT (SV × SP) := evFnD (cfgT F (fun _ => none) hpE T25) 2000 9 (patAs 0 [(false, [(.lit (.int .i64 (.lit 6)))]), (false, [(.lit (.int .i64 (.lit 0)))]), (false, [(.lit (.int .i64 (.lit 1)))]), (false, [(.lit (.int .i64 (.lit 0)))]), (false, [(.lit (.int .u32 (.lit 16)))])]) ⟨hpE, []⟩
def spc25 : PC := []
def r25_0c0 : RT := (.leaf (.int .u32 (.lit 39011)))
theorem r25_0k0 : r25_0c0.ok 0 M25 spc25 = true := by kernel_rfl
def sm25 : Sm := ⟨[(false, [(.lit (.int .i64 (.lit 6)))]), (false, [(.lit (.int .i64 (.lit 0)))]), (false, [(.lit (.int .i64 (.lit 1)))]), (false, [(.lit (.int .i64 (.lit 0)))]), (false, [(.lit (.int .u32 (.lit 16)))])], false, r25_0c0⟩
theorem sv25 (G : Nat → Option Nat) (D : Hp) : SmValid Tryz.prog (GofSm G sm25) (DofSm D sm25) 9 sm25 := smValid0 (T := T25) (fuel := 2000) mixed hF (VT25 _ _) rfl r25_0k0
def T26 : List (Nat × List Sm) := [(9, [sm23, sm24, sm25]), (57, [sm8, sm9, sm10, sm11, sm12, sm13, sm14, sm15, sm16, sm17, sm18, sm19, sm20, sm21, sm22]), (78, [sm0, sm1, sm2, sm3, sm4, sm5, sm6, sm7])]
theorem VT26 (G : Nat → Option Nat) (D : Hp) : AllV Tryz.prog G D T26 := ⟨fun sm h => by
  simp only [List.mem_cons, List.not_mem_nil, or_false] at h
  rcases h with rfl | rfl | rfl
  · exact sv23 G D
  · exact sv24 G D
  · exact sv25 G D, ⟨fun sm h => by
  simp only [List.mem_cons, List.not_mem_nil, or_false] at h
  rcases h with rfl | rfl | rfl | rfl | rfl | rfl | rfl | rfl | rfl | rfl | rfl | rfl | rfl | rfl | rfl
  · exact sv8 G D
  · exact sv9 G D
  · exact sv10 G D
  · exact sv11 G D
  · exact sv12 G D
  · exact sv13 G D
  · exact sv14 G D
  · exact sv15 G D
  · exact sv16 G D
  · exact sv17 G D
  · exact sv18 G D
  · exact sv19 G D
  · exact sv20 G D
  · exact sv21 G D
  · exact sv22 G D, ⟨fun sm h => by
  simp only [List.mem_cons, List.not_mem_nil, or_false] at h
  rcases h with rfl | rfl | rfl | rfl | rfl | rfl | rfl | rfl
  · exact sv0 G D
  · exact sv1 G D
  · exact sv2 G D
  · exact sv3 G D
  · exact sv4 G D
  · exact sv5 G D
  · exact sv6 G D
  · exact sv7 G D, trivial⟩⟩⟩
noncomputable def M26 : TT (SV × SP) := evFnD (cfgT F (fun _ => none) hpE T26) 2000 9 (patAs 0 [(false, [(.lit (.int .i64 (.lit 1)))]), (false, [(.lit (.int .i64 (.lit 2)))]), (false, [(.lit (.int .i64 (.lit 0)))]), (false, [(.lit (.int .i64 (.lit 0)))]), (false, [(.lit (.int .u32 (.lit 1073741824)))])]) ⟨hpE, []⟩
def spc26 : PC := []
def r26_0c0 : RT := (.leaf (.int .u32 (.lit 1073742135)))
theorem r26_0k0 : r26_0c0.ok 0 M26 spc26 = true := by kernel_rfl
def sm26 : Sm := ⟨[(false, [(.lit (.int .i64 (.lit 1)))]), (false, [(.lit (.int .i64 (.lit 2)))]), (false, [(.lit (.int .i64 (.lit 0)))]), (false, [(.lit (.int .i64 (.lit 0)))]), (false, [(.lit (.int .u32 (.lit 1073741824)))])], false, r26_0c0⟩
theorem sv26 (G : Nat → Option Nat) (D : Hp) : SmValid Tryz.prog (GofSm G sm26) (DofSm D sm26) 9 sm26 := smValid0 (T := T26) (fuel := 2000) mixed hF (VT26 _ _) rfl r26_0k0
def T27 : List (Nat × List Sm) := [(9, [sm23, sm24, sm25, sm26]), (57, [sm8, sm9, sm10, sm11, sm12, sm13, sm14, sm15, sm16, sm17, sm18, sm19, sm20, sm21, sm22]), (78, [sm0, sm1, sm2, sm3, sm4, sm5, sm6, sm7])]
theorem VT27 (G : Nat → Option Nat) (D : Hp) : AllV Tryz.prog G D T27 := ⟨fun sm h => by
  simp only [List.mem_cons, List.not_mem_nil, or_false] at h
  rcases h with rfl | rfl | rfl | rfl
  · exact sv23 G D
  · exact sv24 G D
  · exact sv25 G D
  · exact sv26 G D, ⟨fun sm h => by
  simp only [List.mem_cons, List.not_mem_nil, or_false] at h
  rcases h with rfl | rfl | rfl | rfl | rfl | rfl | rfl | rfl | rfl | rfl | rfl | rfl | rfl | rfl | rfl
  · exact sv8 G D
  · exact sv9 G D
  · exact sv10 G D
  · exact sv11 G D
  · exact sv12 G D
  · exact sv13 G D
  · exact sv14 G D
  · exact sv15 G D
  · exact sv16 G D
  · exact sv17 G D
  · exact sv18 G D
  · exact sv19 G D
  · exact sv20 G D
  · exact sv21 G D
  · exact sv22 G D, ⟨fun sm h => by
  simp only [List.mem_cons, List.not_mem_nil, or_false] at h
  rcases h with rfl | rfl | rfl | rfl | rfl | rfl | rfl | rfl
  · exact sv0 G D
  · exact sv1 G D
  · exact sv2 G D
  · exact sv3 G D
  · exact sv4 G D
  · exact sv5 G D
  · exact sv6 G D
  · exact sv7 G D, trivial⟩⟩⟩
noncomputable def M27 : TT (SV × SP) := evFnD (cfgT F (fun _ => none) hpE T27) 2000 9 (patAs 0 [(false, [(.lit (.int .i64 (.lit 18)))]), (false, [(.lit (.int .i64 (.lit 0)))]), (false, [(.lit (.int .i64 (.lit 2)))]), (false, [(.lit (.int .i64 (.lit 3)))]), (false, [(.lit (.int .u32 (.lit 4)))])]) ⟨hpE, []⟩
def spc27 : PC := []
def r27_0c0 : RT := (.leaf (.int .u32 (.lit 3220003)))
theorem r27_0k0 : r27_0c0.ok 0 M27 spc27 = true := by kernel_rfl
def sm27 : Sm := ⟨[(false, [(.lit (.int .i64 (.lit 18)))]), (false, [(.lit (.int .i64 (.lit 0)))]), (false, [(.lit (.int .i64 (.lit 2)))]), (false, [(.lit (.int .i64 (.lit 3)))]), (false, [(.lit (.int .u32 (.lit 4)))])], false, r27_0c0⟩
theorem sv27 (G : Nat → Option Nat) (D : Hp) : SmValid Tryz.prog (GofSm G sm27) (DofSm D sm27) 9 sm27 := smValid0 (T := T27) (fuel := 2000) mixed hF (VT27 _ _) rfl r27_0k0
def T28 : List (Nat × List Sm) := [(9, [sm23, sm24, sm25, sm26, sm27]), (57, [sm8, sm9, sm10, sm11, sm12, sm13, sm14, sm15, sm16, sm17, sm18, sm19, sm20, sm21, sm22]), (78, [sm0, sm1, sm2, sm3, sm4, sm5, sm6, sm7])]
theorem VT28 (G : Nat → Option Nat) (D : Hp) : AllV Tryz.prog G D T28 := ⟨fun sm h => by
  simp only [List.mem_cons, List.not_mem_nil, or_false] at h
  rcases h with rfl | rfl | rfl | rfl | rfl
  · exact sv23 G D
  · exact sv24 G D
  · exact sv25 G D
  · exact sv26 G D
  · exact sv27 G D, ⟨fun sm h => by
  simp only [List.mem_cons, List.not_mem_nil, or_false] at h
  rcases h with rfl | rfl | rfl | rfl | rfl | rfl | rfl | rfl | rfl | rfl | rfl | rfl | rfl | rfl | rfl
  · exact sv8 G D
  · exact sv9 G D
  · exact sv10 G D
  · exact sv11 G D
  · exact sv12 G D
  · exact sv13 G D
  · exact sv14 G D
  · exact sv15 G D
  · exact sv16 G D
  · exact sv17 G D
  · exact sv18 G D
  · exact sv19 G D
  · exact sv20 G D
  · exact sv21 G D
  · exact sv22 G D, ⟨fun sm h => by
  simp only [List.mem_cons, List.not_mem_nil, or_false] at h
  rcases h with rfl | rfl | rfl | rfl | rfl | rfl | rfl | rfl
  · exact sv0 G D
  · exact sv1 G D
  · exact sv2 G D
  · exact sv3 G D
  · exact sv4 G D
  · exact sv5 G D
  · exact sv6 G D
  · exact sv7 G D, trivial⟩⟩⟩
noncomputable def M28 : TT (SV × SP) := evFnD (cfgT F (fun _ => none) hpE T28) 2000 9 (patAs 0 [(false, [(.lit (.int .i64 (.lit 3)))]), (false, [(.lit (.int .i64 (.lit 0)))]), (false, [(.lit (.int .i64 (.lit 0)))]), (false, [(.lit (.int .i64 (.lit 0)))]), (false, [(.lit (.int .u32 (.lit 0)))])]) ⟨hpE, []⟩
def spc28 : PC := []
def r28_0c0 : RT := (.leaf (.int .u32 (.lit 111)))
theorem r28_0k0 : r28_0c0.ok 0 M28 spc28 = true := by kernel_rfl
def sm28 : Sm := ⟨[(false, [(.lit (.int .i64 (.lit 3)))]), (false, [(.lit (.int .i64 (.lit 0)))]), (false, [(.lit (.int .i64 (.lit 0)))]), (false, [(.lit (.int .i64 (.lit 0)))]), (false, [(.lit (.int .u32 (.lit 0)))])], false, r28_0c0⟩
theorem sv28 (G : Nat → Option Nat) (D : Hp) : SmValid Tryz.prog (GofSm G sm28) (DofSm D sm28) 9 sm28 := smValid0 (T := T28) (fuel := 2000) mixed hF (VT28 _ _) rfl r28_0k0
def T29 : List (Nat × List Sm) := [(9, [sm23, sm24, sm25, sm26, sm27, sm28]), (57, [sm8, sm9, sm10, sm11, sm12, sm13, sm14, sm15, sm16, sm17, sm18, sm19, sm20, sm21, sm22]), (78, [sm0, sm1, sm2, sm3, sm4, sm5, sm6, sm7])]
theorem VT29 (G : Nat → Option Nat) (D : Hp) : AllV Tryz.prog G D T29 := ⟨fun sm h => by
  simp only [List.mem_cons, List.not_mem_nil, or_false] at h
  rcases h with rfl | rfl | rfl | rfl | rfl | rfl
  · exact sv23 G D
  · exact sv24 G D
  · exact sv25 G D
  · exact sv26 G D
  · exact sv27 G D
  · exact sv28 G D, ⟨fun sm h => by
  simp only [List.mem_cons, List.not_mem_nil, or_false] at h
  rcases h with rfl | rfl | rfl | rfl | rfl | rfl | rfl | rfl | rfl | rfl | rfl | rfl | rfl | rfl | rfl
  · exact sv8 G D
  · exact sv9 G D
  · exact sv10 G D
  · exact sv11 G D
  · exact sv12 G D
  · exact sv13 G D
  · exact sv14 G D
  · exact sv15 G D
  · exact sv16 G D
  · exact sv17 G D
  · exact sv18 G D
  · exact sv19 G D
  · exact sv20 G D
  · exact sv21 G D
  · exact sv22 G D, ⟨fun sm h => by
  simp only [List.mem_cons, List.not_mem_nil, or_false] at h
  rcases h with rfl | rfl | rfl | rfl | rfl | rfl | rfl | rfl
  · exact sv0 G D
  · exact sv1 G D
  · exact sv2 G D
  · exact sv3 G D
  · exact sv4 G D
  · exact sv5 G D
  · exact sv6 G D
  · exact sv7 G D, trivial⟩⟩⟩
noncomputable def M29 : TT (SV × SP) := evFnD (cfgT F (fun _ => none) hpE T29) 2000 9 (patAs 0 [(false, [(.lit (.int .i64 (.lit 43)))]), (false, [(.lit (.int .i64 (.lit 0)))]), (false, [(.lit (.int .i64 (.lit 0)))]), (false, [(.lit (.int .i64 (.lit 0)))]), (false, [(.lit (.int .u32 (.lit 0)))])]) ⟨hpE, []⟩
def spc29 : PC := []
def r29_0c0 : RT := (.leaf (.int .u32 (.lit 273678451)))
theorem r29_0k0 : r29_0c0.ok 0 M29 spc29 = true := by kernel_rfl
def sm29 : Sm := ⟨[(false, [(.lit (.int .i64 (.lit 43)))]), (false, [(.lit (.int .i64 (.lit 0)))]), (false, [(.lit (.int .i64 (.lit 0)))]), (false, [(.lit (.int .i64 (.lit 0)))]), (false, [(.lit (.int .u32 (.lit 0)))])], false, r29_0c0⟩
theorem sv29 (G : Nat → Option Nat) (D : Hp) : SmValid Tryz.prog (GofSm G sm29) (DofSm D sm29) 9 sm29 := smValid0 (T := T29) (fuel := 2000) mixed hF (VT29 _ _) rfl r29_0k0
def T30 : List (Nat × List Sm) := [(9, [sm23, sm24, sm25, sm26, sm27, sm28, sm29]), (57, [sm8, sm9, sm10, sm11, sm12, sm13, sm14, sm15, sm16, sm17, sm18, sm19, sm20, sm21, sm22]), (78, [sm0, sm1, sm2, sm3, sm4, sm5, sm6, sm7])]
theorem VT30 (G : Nat → Option Nat) (D : Hp) : AllV Tryz.prog G D T30 := ⟨fun sm h => by
  simp only [List.mem_cons, List.not_mem_nil, or_false] at h
  rcases h with rfl | rfl | rfl | rfl | rfl | rfl | rfl
  · exact sv23 G D
  · exact sv24 G D
  · exact sv25 G D
  · exact sv26 G D
  · exact sv27 G D
  · exact sv28 G D
  · exact sv29 G D, ⟨fun sm h => by
  simp only [List.mem_cons, List.not_mem_nil, or_false] at h
  rcases h with rfl | rfl | rfl | rfl | rfl | rfl | rfl | rfl | rfl | rfl | rfl | rfl | rfl | rfl | rfl
  · exact sv8 G D
  · exact sv9 G D
  · exact sv10 G D
  · exact sv11 G D
  · exact sv12 G D
  · exact sv13 G D
  · exact sv14 G D
  · exact sv15 G D
  · exact sv16 G D
  · exact sv17 G D
  · exact sv18 G D
  · exact sv19 G D
  · exact sv20 G D
  · exact sv21 G D
  · exact sv22 G D, ⟨fun sm h => by
  simp only [List.mem_cons, List.not_mem_nil, or_false] at h
  rcases h with rfl | rfl | rfl | rfl | rfl | rfl | rfl | rfl
  · exact sv0 G D
  · exact sv1 G D
  · exact sv2 G D
  · exact sv3 G D
  · exact sv4 G D
  · exact sv5 G D
  · exact sv6 G D
  · exact sv7 G D, trivial⟩⟩⟩
noncomputable def M30 : TT (SV × SP) := evFnD (cfgT F (fun _ => none) hpE T30) 2000 9 (patAs 0 [(false, [(.lit (.int .i64 (.lit 19)))]), (false, [(.lit (.int .i64 (.lit 5)))]), (false, [(.lit (.int .i64 (.lit 5)))]), (false, [(.lit (.int .i64 (.lit 0)))]), (false, [(.lit (.int .u32 (.lit 1)))])]) ⟨hpE, []⟩
def spc30 : PC := []
def r30_0c0 : RT := (.leaf (.int .u32 (.lit 1213075)))
theorem r30_0k0 : r30_0c0.ok 0 M30 spc30 = true := by kernel_rfl
def sm30 : Sm := ⟨[(false, [(.lit (.int .i64 (.lit 19)))]), (false, [(.lit (.int .i64 (.lit 5)))]), (false, [(.lit (.int .i64 (.lit 5)))]), (false, [(.lit (.int .i64 (.lit 0)))]), (false, [(.lit (.int .u32 (.lit 1)))])], false, r30_0c0⟩
theorem sv30 (G : Nat → Option Nat) (D : Hp) : SmValid Tryz.prog (GofSm G sm30) (DofSm D sm30) 9 sm30 := smValid0 (T := T30) (fuel := 2000) mixed hF (VT30 _ _) rfl r30_0k0
def T31 : List (Nat × List Sm) := [(9, [sm23, sm24, sm25, sm26, sm27, sm28, sm29, sm30]), (57, [sm8, sm9, sm10, sm11, sm12, sm13, sm14, sm15, sm16, sm17, sm18, sm19, sm20, sm21, sm22]), (78, [sm0, sm1, sm2, sm3, sm4, sm5, sm6, sm7])]
theorem VT31 (G : Nat → Option Nat) (D : Hp) : AllV Tryz.prog G D T31 := ⟨fun sm h => by
  simp only [List.mem_cons, List.not_mem_nil, or_false] at h
  rcases h with rfl | rfl | rfl | rfl | rfl | rfl | rfl | rfl
  · exact sv23 G D
  · exact sv24 G D
  · exact sv25 G D
  · exact sv26 G D
  · exact sv27 G D
  · exact sv28 G D
  · exact sv29 G D
  · exact sv30 G D, ⟨fun sm h => by
  simp only [List.mem_cons, List.not_mem_nil, or_false] at h
  rcases h with rfl | rfl | rfl | rfl | rfl | rfl | rfl | rfl | rfl | rfl | rfl | rfl | rfl | rfl | rfl
  · exact sv8 G D
  · exact sv9 G D
  · exact sv10 G D
  · exact sv11 G D
  · exact sv12 G D
  · exact sv13 G D
  · exact sv14 G D
  · exact sv15 G D
  · exact sv16 G D
  · exact sv17 G D
  · exact sv18 G D
  · exact sv19 G D
  · exact sv20 G D
  · exact sv21 G D
  · exact sv22 G D, ⟨fun sm h => by
  simp only [List.mem_cons, List.not_mem_nil, or_false] at h
  rcases h with rfl | rfl | rfl | rfl | rfl | rfl | rfl | rfl
  · exact sv0 G D
  · exact sv1 G D
  · exact sv2 G D
  · exact sv3 G D
  · exact sv4 G D
  · exact sv5 G D
  · exact sv6 G D
  · exact sv7 G D, trivial⟩⟩⟩
noncomputable def M31 : TT (SV × SP) := evFnD (cfgT F (fun _ => none) hpE T31) 2000 9 (patAs 0 [(false, [(.lit (.int .i64 (.lit 13)))]), (false, [(.lit (.int .i64 (.lit 3)))]), (false, [(.lit (.int .i64 (.lit 0)))]), (false, [(.lit (.int .i64 (.lit 0)))]), (false, [(.lit (.int .u32 (.lit 60)))])]) ⟨hpE, []⟩
def spc31 : PC := []
def r31_0c0 : RT := (.leaf (.int .u32 (.lit 62923139)))
theorem r31_0k0 : r31_0c0.ok 0 M31 spc31 = true := by kernel_rfl
def sm31 : Sm := ⟨[(false, [(.lit (.int .i64 (.lit 13)))]), (false, [(.lit (.int .i64 (.lit 3)))]), (false, [(.lit (.int .i64 (.lit 0)))]), (false, [(.lit (.int .i64 (.lit 0)))]), (false, [(.lit (.int .u32 (.lit 60)))])], false, r31_0c0⟩
theorem sv31 (G : Nat → Option Nat) (D : Hp) : SmValid Tryz.prog (GofSm G sm31) (DofSm D sm31) 9 sm31 := smValid0 (T := T31) (fuel := 2000) mixed hF (VT31 _ _) rfl r31_0k0
def T32 : List (Nat × List Sm) := [(9, [sm23, sm24, sm25, sm26, sm27, sm28, sm29, sm30, sm31]), (57, [sm8, sm9, sm10, sm11, sm12, sm13, sm14, sm15, sm16, sm17, sm18, sm19, sm20, sm21, sm22]), (78, [sm0, sm1, sm2, sm3, sm4, sm5, sm6, sm7])]
theorem VT32 (G : Nat → Option Nat) (D : Hp) : AllV Tryz.prog G D T32 := ⟨fun sm h => by
  simp only [List.mem_cons, List.not_mem_nil, or_false] at h
  rcases h with rfl | rfl | rfl | rfl | rfl | rfl | rfl | rfl | rfl
  · exact sv23 G D
  · exact sv24 G D
  · exact sv25 G D
  · exact sv26 G D
  · exact sv27 G D
  · exact sv28 G D
  · exact sv29 G D
  · exact sv30 G D
  · exact sv31 G D, ⟨fun sm h => by
  simp only [List.mem_cons, List.not_mem_nil, or_false] at h
  rcases h with rfl | rfl | rfl | rfl | rfl | rfl | rfl | rfl | rfl | rfl | rfl | rfl | rfl | rfl | rfl
  · exact sv8 G D
  · exact sv9 G D
  · exact sv10 G D
  · exact sv11 G D
  · exact sv12 G D
  · exact sv13 G D
  · exact sv14 G D
  · exact sv15 G D
  · exact sv16 G D
  · exact sv17 G D
  · exact sv18 G D
  · exact sv19 G D
  · exact sv20 G D
  · exact sv21 G D
  · exact sv22 G D, ⟨fun sm h => by
  simp only [List.mem_cons, List.not_mem_nil, or_false] at h
  rcases h with rfl | rfl | rfl | rfl | rfl | rfl | rfl | rfl
  · exact sv0 G D
  · exact sv1 G D
  · exact sv2 G D
  · exact sv3 G D
  · exact sv4 G D
  · exact sv5 G D
  · exact sv6 G D
  · exact sv7 G D, trivial⟩⟩⟩
noncomputable def M32 : TT (SV × SP) := evFnD (cfgT F (fun _ => none) hpE T32) 2000 9 (patAs 0 [(false, [(.lit (.int .i64 (.lit 6)))]), (false, [(.lit (.int .i64 (.lit 0)))]), (false, [(.lit (.int .i64 (.lit 1)))]), (false, [(.lit (.int .i64 (.lit 0)))]), (false, [(.lit (.int .u32 (.lit 20)))])]) ⟨hpE, []⟩
def spc32 : PC := []
def r32_0c0 : RT := (.leaf (.int .u32 (.lit 39523)))
theorem r32_0k0 : r32_0c0.ok 0 M32 spc32 = true := by kernel_rfl
def sm32 : Sm := ⟨[(false, [(.lit (.int .i64 (.lit 6)))]), (false, [(.lit (.int .i64 (.lit 0)))]), (false, [(.lit (.int .i64 (.lit 1)))]), (false, [(.lit (.int .i64 (.lit 0)))]), (false, [(.lit (.int .u32 (.lit 20)))])], false, r32_0c0⟩
theorem sv32 (G : Nat → Option Nat) (D : Hp) : SmValid Tryz.prog (GofSm G sm32) (DofSm D sm32) 9 sm32 := smValid0 (T := T32) (fuel := 2000) mixed hF (VT32 _ _) rfl r32_0k0
def T33 : List (Nat × List Sm) := [(9, [sm23, sm24, sm25, sm26, sm27, sm28, sm29, sm30, sm31, sm32]), (57, [sm8, sm9, sm10, sm11, sm12, sm13, sm14, sm15, sm16, sm17, sm18, sm19, sm20, sm21, sm22]), (78, [sm0, sm1, sm2, sm3, sm4, sm5, sm6, sm7])]
theorem VT33 (G : Nat → Option Nat) (D : Hp) : AllV Tryz.prog G D T33 := ⟨fun sm h => by
  simp only [List.mem_cons, List.not_mem_nil, or_false] at h
  rcases h with rfl | rfl | rfl | rfl | rfl | rfl | rfl | rfl | rfl | rfl
  · exact sv23 G D
  · exact sv24 G D
  · exact sv25 G D
  · exact sv26 G D
  · exact sv27 G D
  · exact sv28 G D
  · exact sv29 G D
  · exact sv30 G D
  · exact sv31 G D
  · exact sv32 G D, ⟨fun sm h => by
  simp only [List.mem_cons, List.not_mem_nil, or_false] at h
  rcases h with rfl | rfl | rfl | rfl | rfl | rfl | rfl | rfl | rfl | rfl | rfl | rfl | rfl | rfl | rfl
  · exact sv8 G D
  · exact sv9 G D
  · exact sv10 G D
  · exact sv11 G D
  · exact sv12 G D
  · exact sv13 G D
  · exact sv14 G D
  · exact sv15 G D
  · exact sv16 G D
  · exact sv17 G D
  · exact sv18 G D
  · exact sv19 G D
  · exact sv20 G D
  · exact sv21 G D
  · exact sv22 G D, ⟨fun sm h => by
  simp only [List.mem_cons, List.not_mem_nil, or_false] at h
  rcases h with rfl | rfl | rfl | rfl | rfl | rfl | rfl | rfl
  · exact sv0 G D
  · exact sv1 G D
  · exact sv2 G D
  · exact sv3 G D
  · exact sv4 G D
  · exact sv5 G D
  · exact sv6 G D
  · exact sv7 G D, trivial⟩⟩⟩
noncomputable def M33 : TT (SV × SP) := evFnD (cfgT F (fun _ => none) hpE T33) 2000 17 (patAs 0 [(false, [(.lit (.int .i64 (.lit 46)))]), (false, [(.lit (.int .i64 (.lit 1)))]), (false, [(.lit (.int .i64 (.lit 3860)))]), (false, [(.lit (.int .i64 (.lit 0)))]), (false, [(.lit (.int .u32 (.lit 0)))])]) ⟨hpE, []⟩
def spc33 : PC := []
def r33_0c0 : RT := (.leaf (.int .u32 (.lit 4047511795)))
theorem r33_0k0 : r33_0c0.ok 0 M33 spc33 = true := by kernel_rfl
def sm33 : Sm := ⟨[(false, [(.lit (.int .i64 (.lit 46)))]), (false, [(.lit (.int .i64 (.lit 1)))]), (false, [(.lit (.int .i64 (.lit 3860)))]), (false, [(.lit (.int .i64 (.lit 0)))]), (false, [(.lit (.int .u32 (.lit 0)))])], false, r33_0c0⟩
theorem sv33 (G : Nat → Option Nat) (D : Hp) : SmValid Tryz.prog (GofSm G sm33) (DofSm D sm33) 17 sm33 := smValid0 (T := T33) (fuel := 2000) mixed hF (VT33 _ _) rfl r33_0k0
def T34 : List (Nat × List Sm) := [(17, [sm33]), (9, [sm23, sm24, sm25, sm26, sm27, sm28, sm29, sm30, sm31, sm32]), (57, [sm8, sm9, sm10, sm11, sm12, sm13, sm14, sm15, sm16, sm17, sm18, sm19, sm20, sm21, sm22]), (78, [sm0, sm1, sm2, sm3, sm4, sm5, sm6, sm7])]
theorem VT34 (G : Nat → Option Nat) (D : Hp) : AllV Tryz.prog G D T34 := ⟨fun sm h => by
  simp only [List.mem_cons, List.not_mem_nil, or_false] at h
  rcases h with rfl
  · exact sv33 G D, ⟨fun sm h => by
  simp only [List.mem_cons, List.not_mem_nil, or_false] at h
  rcases h with rfl | rfl | rfl | rfl | rfl | rfl | rfl | rfl | rfl | rfl
  · exact sv23 G D
  · exact sv24 G D
  · exact sv25 G D
  · exact sv26 G D
  · exact sv27 G D
  · exact sv28 G D
  · exact sv29 G D
  · exact sv30 G D
  · exact sv31 G D
  · exact sv32 G D, ⟨fun sm h => by
  simp only [List.mem_cons, List.not_mem_nil, or_false] at h
  rcases h with rfl | rfl | rfl | rfl | rfl | rfl | rfl | rfl | rfl | rfl | rfl | rfl | rfl | rfl | rfl
  · exact sv8 G D
  · exact sv9 G D
  · exact sv10 G D
  · exact sv11 G D
  · exact sv12 G D
  · exact sv13 G D
  · exact sv14 G D
  · exact sv15 G D
  · exact sv16 G D
  · exact sv17 G D
  · exact sv18 G D
  · exact sv19 G D
  · exact sv20 G D
  · exact sv21 G D
  · exact sv22 G D, ⟨fun sm h => by
  simp only [List.mem_cons, List.not_mem_nil, or_false] at h
  rcases h with rfl | rfl | rfl | rfl | rfl | rfl | rfl | rfl
  · exact sv0 G D
  · exact sv1 G D
  · exact sv2 G D
  · exact sv3 G D
  · exact sv4 G D
  · exact sv5 G D
  · exact sv6 G D
  · exact sv7 G D, trivial⟩⟩⟩⟩
noncomputable def M34 : TT (SV × SP) := evFnD (cfgT F (fun _ => none) hpE T34) 2000 17 (patAs 0 [(false, [(.lit (.int .i64 (.lit 48)))]), (false, [(.lit (.int .i64 (.lit 0)))]), (false, [(.lit (.int .i64 (.lit 772)))]), (false, [(.lit (.int .i64 (.lit 0)))]), (false, [(.lit (.int .u32 (.lit 8)))])]) ⟨hpE, []⟩
def spc34 : PC := []
def r34_0c0 : RT := (.leaf (.int .u32 (.lit 809783411)))
theorem r34_0k0 : r34_0c0.ok 0 M34 spc34 = true := by kernel_rfl
def sm34 : Sm := ⟨[(false, [(.lit (.int .i64 (.lit 48)))]), (false, [(.lit (.int .i64 (.lit 0)))]), (false, [(.lit (.int .i64 (.lit 772)))]), (false, [(.lit (.int .i64 (.lit 0)))]), (false, [(.lit (.int .u32 (.lit 8)))])], false, r34_0c0⟩
theorem sv34 (G : Nat → Option Nat) (D : Hp) : SmValid Tryz.prog (GofSm G sm34) (DofSm D sm34) 17 sm34 := smValid0 (T := T34) (fuel := 2000) mixed hF (VT34 _ _) rfl r34_0k0
def T35 : List (Nat × List Sm) := [(17, [sm33, sm34]), (9, [sm23, sm24, sm25, sm26, sm27, sm28, sm29, sm30, sm31, sm32]), (57, [sm8, sm9, sm10, sm11, sm12, sm13, sm14, sm15, sm16, sm17, sm18, sm19, sm20, sm21, sm22]), (78, [sm0, sm1, sm2, sm3, sm4, sm5, sm6, sm7])]
theorem VT35 (G : Nat → Option Nat) (D : Hp) : AllV Tryz.prog G D T35 := ⟨fun sm h => by
  simp only [List.mem_cons, List.not_mem_nil, or_false] at h
  rcases h with rfl | rfl
  · exact sv33 G D
  · exact sv34 G D, ⟨fun sm h => by
  simp only [List.mem_cons, List.not_mem_nil, or_false] at h
  rcases h with rfl | rfl | rfl | rfl | rfl | rfl | rfl | rfl | rfl | rfl
  · exact sv23 G D
  · exact sv24 G D
  · exact sv25 G D
  · exact sv26 G D
  · exact sv27 G D
  · exact sv28 G D
  · exact sv29 G D
  · exact sv30 G D
  · exact sv31 G D
  · exact sv32 G D, ⟨fun sm h => by
  simp only [List.mem_cons, List.not_mem_nil, or_false] at h
  rcases h with rfl | rfl | rfl | rfl | rfl | rfl | rfl | rfl | rfl | rfl | rfl | rfl | rfl | rfl | rfl
  · exact sv8 G D
  · exact sv9 G D
  · exact sv10 G D
  · exact sv11 G D
  · exact sv12 G D
  · exact sv13 G D
  · exact sv14 G D
  · exact sv15 G D
  · exact sv16 G D
  · exact sv17 G D
  · exact sv18 G D
  · exact sv19 G D
  · exact sv20 G D
  · exact sv21 G D
  · exact sv22 G D, ⟨fun sm h => by
  simp only [List.mem_cons, List.not_mem_nil, or_false] at h
  rcases h with rfl | rfl | rfl | rfl | rfl | rfl | rfl | rfl
  · exact sv0 G D
  · exact sv1 G D
  · exact sv2 G D
  · exact sv3 G D
  · exact sv4 G D
  · exact sv5 G D
  · exact sv6 G D
  · exact sv7 G D, trivial⟩⟩⟩⟩
noncomputable def M35 : TT (SV × SP) := evFnD (cfgT F (fun _ => none) hpE T35) 2000 17 (patAs 0 [(false, [(.lit (.int .i64 (.lit 48)))]), (false, [(.lit (.int .i64 (.lit 0)))]), (false, [(.lit (.int .i64 (.lit 768)))]), (false, [(.lit (.int .i64 (.lit 0)))]), (false, [(.lit (.int .u32 (.lit 8)))])]) ⟨hpE, []⟩
def spc35 : PC := []
def r35_0c0 : RT := (.leaf (.int .u32 (.lit 805589107)))
theorem r35_0k0 : r35_0c0.ok 0 M35 spc35 = true := by kernel_rfl
def sm35 : Sm := ⟨[(false, [(.lit (.int .i64 (.lit 48)))]), (false, [(.lit (.int .i64 (.lit 0)))]), (false, [(.lit (.int .i64 (.lit 768)))]), (false, [(.lit (.int .i64 (.lit 0)))]), (false, [(.lit (.int .u32 (.lit 8)))])], false, r35_0c0⟩
theorem sv35 (G : Nat → Option Nat) (D : Hp) : SmValid Tryz.prog (GofSm G sm35) (DofSm D sm35) 17 sm35 := smValid0 (T := T35) (fuel := 2000) mixed hF (VT35 _ _) rfl r35_0k0
def T36 : List (Nat × List Sm) := [(17, [sm33, sm34, sm35]), (9, [sm23, sm24, sm25, sm26, sm27, sm28, sm29, sm30, sm31, sm32]), (57, [sm8, sm9, sm10, sm11, sm12, sm13, sm14, sm15, sm16, sm17, sm18, sm19, sm20, sm21, sm22]), (78, [sm0, sm1, sm2, sm3, sm4, sm5, sm6, sm7])]
theorem VT36 (G : Nat → Option Nat) (D : Hp) : AllV Tryz.prog G D T36 := ⟨fun sm h => by
  simp only [List.mem_cons, List.not_mem_nil, or_false] at h
  rcases h with rfl | rfl | rfl
  · exact sv33 G D
  · exact sv34 G D
  · exact sv35 G D, ⟨fun sm h => by
  simp only [List.mem_cons, List.not_mem_nil, or_false] at h
  rcases h with rfl | rfl | rfl | rfl | rfl | rfl | rfl | rfl | rfl | rfl
  · exact sv23 G D
  · exact sv24 G D
  · exact sv25 G D
  · exact sv26 G D
  · exact sv27 G D
  · exact sv28 G D
  · exact sv29 G D
  · exact sv30 G D
  · exact sv31 G D
  · exact sv32 G D, ⟨fun sm h => by
  simp only [List.mem_cons, List.not_mem_nil, or_false] at h
  rcases h with rfl | rfl | rfl | rfl | rfl | rfl | rfl | rfl | rfl | rfl | rfl | rfl | rfl | rfl | rfl
  · exact sv8 G D
  · exact sv9 G D
  · exact sv10 G D
  · exact sv11 G D
  · exact sv12 G D
  · exact sv13 G D
  · exact sv14 G D
  · exact sv15 G D
  · exact sv16 G D
  · exact sv17 G D
  · exact sv18 G D
  · exact sv19 G D
  · exact sv20 G D
  · exact sv21 G D
  · exact sv22 G D, ⟨fun sm h => by
  simp only [List.mem_cons, List.not_mem_nil, or_false] at h
  rcases h with rfl | rfl | rfl | rfl | rfl | rfl | rfl | rfl
  · exact sv0 G D
  · exact sv1 G D
  · exact sv2 G D
  · exact sv3 G D
  · exact sv4 G D
  · exact sv5 G D
  · exact sv6 G D
  · exact sv7 G D, trivial⟩⟩⟩⟩
noncomputable def M36 : TT (SV × SP) := evFnD (cfgT F (fun _ => none) hpE T36) 2000 17 (patAs 0 [(false, [(.lit (.int .i64 (.lit 48)))]), (false, [(.lit (.int .i64 (.lit 0)))]), (false, [(.lit (.int .i64 (.lit 773)))]), (false, [(.lit (.int .i64 (.lit 0)))]), (false, [(.lit (.int .u32 (.lit 16)))])]) ⟨hpE, []⟩
def spc36 : PC := []
def r36_0c0 : RT := (.leaf (.int .u32 (.lit 811094131)))
theorem r36_0k0 : r36_0c0.ok 0 M36 spc36 = true := by kernel_rfl
def sm36 : Sm := ⟨[(false, [(.lit (.int .i64 (.lit 48)))]), (false, [(.lit (.int .i64 (.lit 0)))]), (false, [(.lit (.int .i64 (.lit 773)))]), (false, [(.lit (.int .i64 (.lit 0)))]), (false, [(.lit (.int .u32 (.lit 16)))])], false, r36_0c0⟩
theorem sv36 (G : Nat → Option Nat) (D : Hp) : SmValid Tryz.prog (GofSm G sm36) (DofSm D sm36) 17 sm36 := smValid0 (T := T36) (fuel := 2000) mixed hF (VT36 _ _) rfl r36_0k0
def T37 : List (Nat × List Sm) := [(17, [sm33, sm34, sm35, sm36]), (9, [sm23, sm24, sm25, sm26, sm27, sm28, sm29, sm30, sm31, sm32]), (57, [sm8, sm9, sm10, sm11, sm12, sm13, sm14, sm15, sm16, sm17, sm18, sm19, sm20, sm21, sm22]), (78, [sm0, sm1, sm2, sm3, sm4, sm5, sm6, sm7])]
theorem VT37 (G : Nat → Option Nat) (D : Hp) : AllV Tryz.prog G D T37 := ⟨fun sm h => by
  simp only [List.mem_cons, List.not_mem_nil, or_false] at h
  rcases h with rfl | rfl | rfl | rfl
  · exact sv33 G D
  · exact sv34 G D
  · exact sv35 G D
  · exact sv36 G D, ⟨fun sm h => by
  simp only [List.mem_cons, List.not_mem_nil, or_false] at h
  rcases h with rfl | rfl | rfl | rfl | rfl | rfl | rfl | rfl | rfl | rfl
  · exact sv23 G D
  · exact sv24 G D
  · exact sv25 G D
  · exact sv26 G D
  · exact sv27 G D
  · exact sv28 G D
  · exact sv29 G D
  · exact sv30 G D
  · exact sv31 G D
  · exact sv32 G D, ⟨fun sm h => by
  simp only [List.mem_cons, List.not_mem_nil, or_false] at h
  rcases h with rfl | rfl | rfl | rfl | rfl | rfl | rfl | rfl | rfl | rfl | rfl | rfl | rfl | rfl | rfl
  · exact sv8 G D
  · exact sv9 G D
  · exact sv10 G D
  · exact sv11 G D
  · exact sv12 G D
  · exact sv13 G D
  · exact sv14 G D
  · exact sv15 G D
  · exact sv16 G D
  · exact sv17 G D
  · exact sv18 G D
  · exact sv19 G D
  · exact sv20 G D
  · exact sv21 G D
  · exact sv22 G D, ⟨fun sm h => by
  simp only [List.mem_cons, List.not_mem_nil, or_false] at h
  rcases h with rfl | rfl | rfl | rfl | rfl | rfl | rfl | rfl
  · exact sv0 G D
  · exact sv1 G D
  · exact sv2 G D
  · exact sv3 G D
  · exact sv4 G D
  · exact sv5 G D
  · exact sv6 G D
  · exact sv7 G D, trivial⟩⟩⟩⟩
noncomputable def M37 : TT (SV × SP) := evFnD (cfgT F (fun _ => none) hpE T37) 2000 17 (patAs 0 [(false, [(.lit (.int .i64 (.lit 48)))]), (false, [(.lit (.int .i64 (.lit 0)))]), (false, [(.lit (.int .i64 (.lit 768)))]), (false, [(.lit (.int .i64 (.lit 0)))]), (false, [(.lit (.int .u32 (.lit 0)))])]) ⟨hpE, []⟩
def spc37 : PC := []
def r37_0c0 : RT := (.leaf (.int .u32 (.lit 805326963)))
theorem r37_0k0 : r37_0c0.ok 0 M37 spc37 = true := by kernel_rfl
def sm37 : Sm := ⟨[(false, [(.lit (.int .i64 (.lit 48)))]), (false, [(.lit (.int .i64 (.lit 0)))]), (false, [(.lit (.int .i64 (.lit 768)))]), (false, [(.lit (.int .i64 (.lit 0)))]), (false, [(.lit (.int .u32 (.lit 0)))])], false, r37_0c0⟩
theorem sv37 (G : Nat → Option Nat) (D : Hp) : SmValid Tryz.prog (GofSm G sm37) (DofSm D sm37) 17 sm37 := smValid0 (T := T37) (fuel := 2000) mixed hF (VT37 _ _) rfl r37_0k0
def T38 : List (Nat × List Sm) := [(17, [sm33, sm34, sm35, sm36, sm37]), (9, [sm23, sm24, sm25, sm26, sm27, sm28, sm29, sm30, sm31, sm32]), (57, [sm8, sm9, sm10, sm11, sm12, sm13, sm14, sm15, sm16, sm17, sm18, sm19, sm20, sm21, sm22]), (78, [sm0, sm1, sm2, sm3, sm4, sm5, sm6, sm7])]
theorem VT38 (G : Nat → Option Nat) (D : Hp) : AllV Tryz.prog G D T38 := ⟨fun sm h => by
  simp only [List.mem_cons, List.not_mem_nil, or_false] at h
  rcases h with rfl | rfl | rfl | rfl | rfl
  · exact sv33 G D
  · exact sv34 G D
  · exact sv35 G D
  · exact sv36 G D
  · exact sv37 G D, ⟨fun sm h => by
  simp only [List.mem_cons, List.not_mem_nil, or_false] at h
  rcases h with rfl | rfl | rfl | rfl | rfl | rfl | rfl | rfl | rfl | rfl
  · exact sv23 G D
  · exact sv24 G D
  · exact sv25 G D
  · exact sv26 G D
  · exact sv27 G D
  · exact sv28 G D
  · exact sv29 G D
  · exact sv30 G D
  · exact sv31 G D
  · exact sv32 G D, ⟨fun sm h => by
  simp only [List.mem_cons, List.not_mem_nil, or_false] at h
  rcases h with rfl | rfl | rfl | rfl | rfl | rfl | rfl | rfl | rfl | rfl | rfl | rfl | rfl | rfl | rfl
  · exact sv8 G D
  · exact sv9 G D
  · exact sv10 G D
  · exact sv11 G D
  · exact sv12 G D
  · exact sv13 G D
  · exact sv14 G D
  · exact sv15 G D
  · exact sv16 G D
  · exact sv17 G D
  · exact sv18 G D
  · exact sv19 G D
  · exact sv20 G D
  · exact sv21 G D
  · exact sv22 G D, ⟨fun sm h => by
  simp only [List.mem_cons, List.not_mem_nil, or_false] at h
  rcases h with rfl | rfl | rfl | rfl | rfl | rfl | rfl | rfl
  · exact sv0 G D
  · exact sv1 G D
  · exact sv2 G D
  · exact sv3 G D
  · exact sv4 G D
  · exact sv5 G D
  · exact sv6 G D
  · exact sv7 G D, trivial⟩⟩⟩⟩
noncomputable def M38 : TT (SV × SP) := evFnD (cfgT F (fun _ => none) hpE T38) 2000 17 (patAs 0 [(false, [(.lit (.int .i64 (.lit 48)))]), (false, [(.lit (.int .i64 (.lit 0)))]), (false, [(.lit (.int .i64 (.lit 772)))]), (false, [(.lit (.int .i64 (.lit 0)))]), (false, [(.lit (.int .u32 (.lit 0)))])]) ⟨hpE, []⟩
def spc38 : PC := []
def r38_0c0 : RT := (.leaf (.int .u32 (.lit 809521267)))
theorem r38_0k0 : r38_0c0.ok 0 M38 spc38 = true := by kernel_rfl
def sm38 : Sm := ⟨[(false, [(.lit (.int .i64 (.lit 48)))]), (false, [(.lit (.int .i64 (.lit 0)))]), (false, [(.lit (.int .i64 (.lit 772)))]), (false, [(.lit (.int .i64 (.lit 0)))]), (false, [(.lit (.int .u32 (.lit 0)))])], false, r38_0c0⟩
theorem sv38 (G : Nat → Option Nat) (D : Hp) : SmValid Tryz.prog (GofSm G sm38) (DofSm D sm38) 17 sm38 := smValid0 (T := T38) (fuel := 2000) mixed hF (VT38 _ _) rfl r38_0k0
def T39 : List (Nat × List Sm) := [(17, [sm33, sm34, sm35, sm36, sm37, sm38]), (9, [sm23, sm24, sm25, sm26, sm27, sm28, sm29, sm30, sm31, sm32]), (57, [sm8, sm9, sm10, sm11, sm12, sm13, sm14, sm15, sm16, sm17, sm18, sm19, sm20, sm21, sm22]), (78, [sm0, sm1, sm2, sm3, sm4, sm5, sm6, sm7])]
theorem VT39 (G : Nat → Option Nat) (D : Hp) : AllV Tryz.prog G D T39 := ⟨fun sm h => by
  simp only [List.mem_cons, List.not_mem_nil, or_false] at h
  rcases h with rfl | rfl | rfl | rfl | rfl | rfl
  · exact sv33 G D
  · exact sv34 G D
  · exact sv35 G D
  · exact sv36 G D
  · exact sv37 G D
  · exact sv38 G D, ⟨fun sm h => by
  simp only [List.mem_cons, List.not_mem_nil, or_false] at h
  rcases h with rfl | rfl | rfl | rfl | rfl | rfl | rfl | rfl | rfl | rfl
  · exact sv23 G D
  · exact sv24 G D
  · exact sv25 G D
  · exact sv26 G D
  · exact sv27 G D
  · exact sv28 G D
  · exact sv29 G D
  · exact sv30 G D
  · exact sv31 G D
  · exact sv32 G D, ⟨fun sm h => by
  simp only [List.mem_cons, List.not_mem_nil, or_false] at h
  rcases h with rfl | rfl | rfl | rfl | rfl | rfl | rfl | rfl | rfl | rfl | rfl | rfl | rfl | rfl | rfl
  · exact sv8 G D
  · exact sv9 G D
  · exact sv10 G D
  · exact sv11 G D
  · exact sv12 G D
  · exact sv13 G D
  · exact sv14 G D
  · exact sv15 G D
  · exact sv16 G D
  · exact sv17 G D
  · exact sv18 G D
  · exact sv19 G D
  · exact sv20 G D
  · exact sv21 G D
  · exact sv22 G D, ⟨fun sm h => by
  simp only [List.mem_cons, List.not_mem_nil, or_false] at h
  rcases h with rfl | rfl | rfl | rfl | rfl | rfl | rfl | rfl
  · exact sv0 G D
  · exact sv1 G D
  · exact sv2 G D
  · exact sv3 G D
  · exact sv4 G D
  · exact sv5 G D
  · exact sv6 G D
  · exact sv7 G D, trivial⟩⟩⟩⟩
noncomputable def M39 : TT (SV × SP) := evFnD (cfgT F (fun _ => none) hpE T39) 2000 88 (patAs 0 [(false, [(.lit (.int .u32 (.lit 0)))]), (false, [(.lit (.int .i64 (.lit 3)))]), (false, [(.lit (.int .u32 (.lit 0)))]), (false, [(.lit (.int .i64 (.lit 1)))]), (false, [(.lit (.int .i64 (.lit 128)))]), (false, [(.lit .nilSlice)])]) ⟨hpE, []⟩
def spc39 : PC := []
def r39_0c0 : RT := (.leaf (.agg [(.int .i64 (.lit 1)), (.int .u32 (.lit 0)), (.int .u32 (.lit 0)), (.int .u32 (.lit 0)), (.int .u32 (.lit 0))]))
theorem r39_0k0 : r39_0c0.ok 0 M39 spc39 = true := by kernel_rfl
def sm39 : Sm := ⟨[(false, [(.lit (.int .u32 (.lit 0)))]), (false, [(.lit (.int .i64 (.lit 3)))]), (false, [(.lit (.int .u32 (.lit 0)))]), (false, [(.lit (.int .i64 (.lit 1)))]), (false, [(.lit (.int .i64 (.lit 128)))]), (false, [(.lit .nilSlice)])], false, r39_0c0⟩
theorem sv39 (G : Nat → Option Nat) (D : Hp) : SmValid Tryz.prog (GofSm G sm39) (DofSm D sm39) 88 sm39 := smValid0 (T := T39) (fuel := 2000) mixed hF (VT39 _ _) rfl r39_0k0
def T40 : List (Nat × List Sm) := [(88, [sm39]), (17, [sm33, sm34, sm35, sm36, sm37, sm38]), (9, [sm23, sm24, sm25, sm26, sm27, sm28, sm29, sm30, sm31, sm32]), (57, [sm8, sm9, sm10, sm11, sm12, sm13, sm14, sm15, sm16, sm17, sm18, sm19, sm20, sm21, sm22]), (78, [sm0, sm1, sm2, sm3, sm4, sm5, sm6, sm7])]
theorem VT40 (G : Nat → Option Nat) (D : Hp) : AllV Tryz.prog G D T40 := ⟨fun sm h => by
  simp only [List.mem_cons, List.not_mem_nil, or_false] at h
  rcases h with rfl
  · exact sv39 G D, ⟨fun sm h => by
  simp only [List.mem_cons, List.not_mem_nil, or_false] at h
  rcases h with rfl | rfl | rfl | rfl | rfl | rfl
  · exact sv33 G D
  · exact sv34 G D
  · exact sv35 G D
  · exact sv36 G D
  · exact sv37 G D
  · exact sv38 G D, ⟨fun sm h => by
  simp only [List.mem_cons, List.not_mem_nil, or_false] at h
  rcases h with rfl | rfl | rfl | rfl | rfl | rfl | rfl | rfl | rfl | rfl
  · exact sv23 G D
  · exact sv24 G D
  · exact sv25 G D
  · exact sv26 G D
  · exact sv27 G D
  · exact sv28 G D
  · exact sv29 G D
  · exact sv30 G D
  · exact sv31 G D
  · exact sv32 G D, ⟨fun sm h => by
  simp only [List.mem_cons, List.not_mem_nil, or_false] at h
  rcases h with rfl | rfl | rfl | rfl | rfl | rfl | rfl | rfl | rfl | rfl | rfl | rfl | rfl | rfl | rfl
  · exact sv8 G D
  · exact sv9 G D
  · exact sv10 G D
  · exact sv11 G D
  · exact sv12 G D
  · exact sv13 G D
  · exact sv14 G D
  · exact sv15 G D
  · exact sv16 G D
  · exact sv17 G D
  · exact sv18 G D
  · exact sv19 G D
  · exact sv20 G D
  · exact sv21 G D
  · exact sv22 G D, ⟨fun sm h => by
  simp only [List.mem_cons, List.not_mem_nil, or_false] at h
  rcases h with rfl | rfl | rfl | rfl | rfl | rfl | rfl | rfl
  · exact sv0 G D
  · exact sv1 G D
  · exact sv2 G D
  · exact sv3 G D
  · exact sv4 G D
  · exact sv5 G D
  · exact sv6 G D
  · exact sv7 G D, trivial⟩⟩⟩⟩⟩
noncomputable def M40 : TT (SV × SP) := evFnD (cfgT F (fun _ => none) hpE T40) 2000 88 (patAs 0 [(false, [(.lit (.int .u32 (.lit 0)))]), (false, [(.lit (.int .i64 (.lit 3)))]), (false, [(.lit (.int .u32 (.lit 4)))]), (false, [(.lit (.int .i64 (.lit 1)))]), (false, [(.lit (.int .i64 (.lit 128)))]), (false, [(.lit .nilSlice)])]) ⟨hpE, []⟩
def spc40 : PC := []
def r40_0c0 : RT := (.leaf (.agg [(.int .i64 (.lit 1)), (.int .u32 (.lit 4)), (.int .u32 (.lit 0)), (.int .u32 (.lit 0)), (.int .u32 (.lit 0))]))
theorem r40_0k0 : r40_0c0.ok 0 M40 spc40 = true := by kernel_rfl
def sm40 : Sm := ⟨[(false, [(.lit (.int .u32 (.lit 0)))]), (false, [(.lit (.int .i64 (.lit 3)))]), (false, [(.lit (.int .u32 (.lit 4)))]), (false, [(.lit (.int .i64 (.lit 1)))]), (false, [(.lit (.int .i64 (.lit 128)))]), (false, [(.lit .nilSlice)])], false, r40_0c0⟩
theorem sv40 (G : Nat → Option Nat) (D : Hp) : SmValid Tryz.prog (GofSm G sm40) (DofSm D sm40) 88 sm40 := smValid0 (T := T40) (fuel := 2000) mixed hF (VT40 _ _) rfl r40_0k0
def T41 : List (Nat × List Sm) := [(88, [sm39, sm40]), (17, [sm33, sm34, sm35, sm36, sm37, sm38]), (9, [sm23, sm24, sm25, sm26, sm27, sm28, sm29, sm30, sm31, sm32]), (57, [sm8, sm9, sm10, sm11, sm12, sm13, sm14, sm15, sm16, sm17, sm18, sm19, sm20, sm21, sm22]), (78, [sm0, sm1, sm2, sm3, sm4, sm5, sm6, sm7])]
theorem VT41 (G : Nat → Option Nat) (D : Hp) : AllV Tryz.prog G D T41 := ⟨fun sm h => by
  simp only [List.mem_cons, List.not_mem_nil, or_false] at h
  rcases h with rfl | rfl
  · exact sv39 G D
  · exact sv40 G D, ⟨fun sm h => by
  simp only [List.mem_cons, List.not_mem_nil, or_false] at h
  rcases h with rfl | rfl | rfl | rfl | rfl | rfl
  · exact sv33 G D
  · exact sv34 G D
  · exact sv35 G D
  · exact sv36 G D
  · exact sv37 G D
  · exact sv38 G D, ⟨fun sm h => by
  simp only [List.mem_cons, List.not_mem_nil, or_false] at h
  rcases h with rfl | rfl | rfl | rfl | rfl | rfl | rfl | rfl | rfl | rfl
  · exact sv23 G D
  · exact sv24 G D
  · exact sv25 G D
  · exact sv26 G D
  · exact sv27 G D
  · exact sv28 G D
  · exact sv29 G D
  · exact sv30 G D
  · exact sv31 G D
  · exact sv32 G D, ⟨fun sm h => by
  simp only [List.mem_cons, List.not_mem_nil, or_false] at h
  rcases h with rfl | rfl | rfl | rfl | rfl | rfl | rfl | rfl | rfl | rfl | rfl | rfl | rfl | rfl | rfl
  · exact sv8 G D
  · exact sv9 G D
  · exact sv10 G D
  · exact sv11 G D
  · exact sv12 G D
  · exact sv13 G D
  · exact sv14 G D
  · exact sv15 G D
  · exact sv16 G D
  · exact sv17 G D
  · exact sv18 G D
  · exact sv19 G D
  · exact sv20 G D
  · exact sv21 G D
  · exact sv22 G D, ⟨fun sm h => by
  simp only [List.mem_cons, List.not_mem_nil, or_false] at h
  rcases h with rfl | rfl | rfl | rfl | rfl | rfl | rfl | rfl
  · exact sv0 G D
  · exact sv1 G D
  · exact sv2 G D
  · exact sv3 G D
  · exact sv4 G D
  · exact sv5 G D
  · exact sv6 G D
  · exact sv7 G D, trivial⟩⟩⟩⟩⟩
noncomputable def M41 : TT (SV × SP) := evFnD (cfgT F (fun _ => none) hpE T41) 2000 88 (patAs 0 [(false, [(.lit (.int .u32 (.lit 0)))]), (false, [(.lit (.int .i64 (.lit 3)))]), (false, [(.lit (.int .u32 (.lit 64)))]), (false, [(.lit (.int .i64 (.lit 3)))]), (false, [(.lit (.int .i64 (.lit 128)))]), (false, [(.lit .nilSlice)])]) ⟨hpE, []⟩
def spc41 : PC := []
def r41_0c0 : RT := (.leaf (.agg [(.int .i64 (.lit 1)), (.int .u32 (.lit 64)), (.int .u32 (.lit 0)), (.int .u32 (.lit 0)), (.int .u32 (.lit 0))]))
theorem r41_0k0 : r41_0c0.ok 0 M41 spc41 = true := by kernel_rfl
def sm41 : Sm := ⟨[(false, [(.lit (.int .u32 (.lit 0)))]), (false, [(.lit (.int .i64 (.lit 3)))]), (false, [(.lit (.int .u32 (.lit 64)))]), (false, [(.lit (.int .i64 (.lit 3)))]), (false, [(.lit (.int .i64 (.lit 128)))]), (false, [(.lit .nilSlice)])], false, r41_0c0⟩
theorem sv41 (G : Nat → Option Nat) (D : Hp) : SmValid Tryz.prog (GofSm G sm41) (DofSm D sm41) 88 sm41 := smValid0 (T := T41) (fuel := 2000) mixed hF (VT41 _ _) rfl r41_0k0
def T42 : List (Nat × List Sm) := [(88, [sm39, sm40, sm41]), (17, [sm33, sm34, sm35, sm36, sm37, sm38]), (9, [sm23, sm24, sm25, sm26, sm27, sm28, sm29, sm30, sm31, sm32]), (57, [sm8, sm9, sm10, sm11, sm12, sm13, sm14, sm15, sm16, sm17, sm18, sm19, sm20, sm21, sm22]), (78, [sm0, sm1, sm2, sm3, sm4, sm5, sm6, sm7])]
theorem VT42 (G : Nat → Option Nat) (D : Hp) : AllV Tryz.prog G D T42 := ⟨fun sm h => by
  simp only [List.mem_cons, List.not_mem_nil, or_false] at h
  rcases h with rfl | rfl | rfl
  · exact sv39 G D
  · exact sv40 G D
  · exact sv41 G D, ⟨fun sm h => by
  simp only [List.mem_cons, List.not_mem_nil, or_false] at h
  rcases h with rfl | rfl | rfl | rfl | rfl | rfl
  · exact sv33 G D
  · exact sv34 G D
  · exact sv35 G D
  · exact sv36 G D
  · exact sv37 G D
  · exact sv38 G D, ⟨fun sm h => by
  simp only [List.mem_cons, List.not_mem_nil, or_false] at h
  rcases h with rfl | rfl | rfl | rfl | rfl | rfl | rfl | rfl | rfl | rfl
  · exact sv23 G D
  · exact sv24 G D
  · exact sv25 G D
  · exact sv26 G D
  · exact sv27 G D
  · exact sv28 G D
  · exact sv29 G D
  · exact sv30 G D
  · exact sv31 G D
  · exact sv32 G D, ⟨fun sm h => by
  simp only [List.mem_cons, List.not_mem_nil, or_false] at h
  rcases h with rfl | rfl | rfl | rfl | rfl | rfl | rfl | rfl | rfl | rfl | rfl | rfl | rfl | rfl | rfl
  · exact sv8 G D
  · exact sv9 G D
  · exact sv10 G D
  · exact sv11 G D
  · exact sv12 G D
  · exact sv13 G D
  · exact sv14 G D
  · exact sv15 G D
  · exact sv16 G D
  · exact sv17 G D
  · exact sv18 G D
  · exact sv19 G D
  · exact sv20 G D
  · exact sv21 G D
  · exact sv22 G D, ⟨fun sm h => by
  simp only [List.mem_cons, List.not_mem_nil, or_false] at h
  rcases h with rfl | rfl | rfl | rfl | rfl | rfl | rfl | rfl
  · exact sv0 G D
  · exact sv1 G D
  · exact sv2 G D
  · exact sv3 G D
  · exact sv4 G D
  · exact sv5 G D
  · exact sv6 G D
  · exact sv7 G D, trivial⟩⟩⟩⟩⟩
noncomputable def M42 : TT (SV × SP) := evFnD (cfgT F (fun _ => none) hpE T42) 2000 88 (patAs 0 [(false, [(.lit (.int .u32 (.lit 0)))]), (false, [(.lit (.int .i64 (.lit 3)))]), (false, [(.lit (.int .u32 (.lit 0)))]), (false, [(.lit (.int .i64 (.lit 1)))]), (false, [(.lit (.int .i64 (.lit 256)))]), (false, [(.lit .nilSlice)])]) ⟨hpE, []⟩
def spc42 : PC := []
def r42_0c0 : RT := (.leaf (.agg [(.int .i64 (.lit 1)), (.int .u32 (.lit 0)), (.int .u32 (.lit 0)), (.int .u32 (.lit 0)), (.int .u32 (.lit 0))]))
theorem r42_0k0 : r42_0c0.ok 0 M42 spc42 = true := by kernel_rfl
def sm42 : Sm := ⟨[(false, [(.lit (.int .u32 (.lit 0)))]), (false, [(.lit (.int .i64 (.lit 3)))]), (false, [(.lit (.int .u32 (.lit 0)))]), (false, [(.lit (.int .i64 (.lit 1)))]), (false, [(.lit (.int .i64 (.lit 256)))]), (false, [(.lit .nilSlice)])], false, r42_0c0⟩
theorem sv42 (G : Nat → Option Nat) (D : Hp) : SmValid Tryz.prog (GofSm G sm42) (DofSm D sm42) 88 sm42 := smValid0 (T := T42) (fuel := 2000) mixed hF (VT42 _ _) rfl r42_0k0
def T43 : List (Nat × List Sm) := [(88, [sm39, sm40, sm41, sm42]), (17, [sm33, sm34, sm35, sm36, sm37, sm38]), (9, [sm23, sm24, sm25, sm26, sm27, sm28, sm29, sm30, sm31, sm32]), (57, [sm8, sm9, sm10, sm11, sm12, sm13, sm14, sm15, sm16, sm17, sm18, sm19, sm20, sm21, sm22]), (78, [sm0, sm1, sm2, sm3, sm4, sm5, sm6, sm7])]
theorem VT43 (G : Nat → Option Nat) (D : Hp) : AllV Tryz.prog G D T43 := ⟨fun sm h => by
  simp only [List.mem_cons, List.not_mem_nil, or_false] at h
  rcases h with rfl | rfl | rfl | rfl
  · exact sv39 G D
  · exact sv40 G D
  · exact sv41 G D
  · exact sv42 G D, ⟨fun sm h => by
  simp only [List.mem_cons, List.not_mem_nil, or_false] at h
  rcases h with rfl | rfl | rfl | rfl | rfl | rfl
  · exact sv33 G D
  · exact sv34 G D
  · exact sv35 G D
  · exact sv36 G D
  · exact sv37 G D
  · exact sv38 G D, ⟨fun sm h => by
  simp only [List.mem_cons, List.not_mem_nil, or_false] at h
  rcases h with rfl | rfl | rfl | rfl | rfl | rfl | rfl | rfl | rfl | rfl
  · exact sv23 G D
  · exact sv24 G D
  · exact sv25 G D
  · exact sv26 G D
  · exact sv27 G D
  · exact sv28 G D
  · exact sv29 G D
  · exact sv30 G D
  · exact sv31 G D
  · exact sv32 G D, ⟨fun sm h => by
  simp only [List.mem_cons, List.not_mem_nil, or_false] at h
  rcases h with rfl | rfl | rfl | rfl | rfl | rfl | rfl | rfl | rfl | rfl | rfl | rfl | rfl | rfl | rfl
  · exact sv8 G D
  · exact sv9 G D
  · exact sv10 G D
  · exact sv11 G D
  · exact sv12 G D
  · exact sv13 G D
  · exact sv14 G D
  · exact sv15 G D
  · exact sv16 G D
  · exact sv17 G D
  · exact sv18 G D
  · exact sv19 G D
  · exact sv20 G D
  · exact sv21 G D
  · exact sv22 G D, ⟨fun sm h => by
  simp only [List.mem_cons, List.not_mem_nil, or_false] at h
  rcases h with rfl | rfl | rfl | rfl | rfl | rfl | rfl | rfl
  · exact sv0 G D
  · exact sv1 G D
  · exact sv2 G D
  · exact sv3 G D
  · exact sv4 G D
  · exact sv5 G D
  · exact sv6 G D
  · exact sv7 G D, trivial⟩⟩⟩⟩⟩
noncomputable def M43 : TT (SV × SP) := evFnD (cfgT F (fun _ => none) hpE T43) 2000 88 (patAs 0 [(false, [(.lit (.int .u32 (.lit 0)))]), (false, [(.lit (.int .i64 (.lit 3)))]), (false, [(.lit (.int .u32 (.lit 4)))]), (false, [(.lit (.int .i64 (.lit 1)))]), (false, [(.lit (.int .i64 (.lit 256)))]), (false, [(.lit .nilSlice)])]) ⟨hpE, []⟩
def spc43 : PC := []
def r43_0c0 : RT := (.leaf (.agg [(.int .i64 (.lit 1)), (.int .u32 (.lit 4)), (.int .u32 (.lit 0)), (.int .u32 (.lit 0)), (.int .u32 (.lit 0))]))
theorem r43_0k0 : r43_0c0.ok 0 M43 spc43 = true := by kernel_rfl
def sm43 : Sm := ⟨[(false, [(.lit (.int .u32 (.lit 0)))]), (false, [(.lit (.int .i64 (.lit 3)))]), (false, [(.lit (.int .u32 (.lit 4)))]), (false, [(.lit (.int .i64 (.lit 1)))]), (false, [(.lit (.int .i64 (.lit 256)))]), (false, [(.lit .nilSlice)])], false, r43_0c0⟩
theorem sv43 (G : Nat → Option Nat) (D : Hp) : SmValid Tryz.prog (GofSm G sm43) (DofSm D sm43) 88 sm43 := smValid0 (T := T43) (fuel := 2000) mixed hF (VT43 _ _) rfl r43_0k0
def T44 : List (Nat × List Sm) := [(88, [sm39, sm40, sm41, sm42, sm43]), (17, [sm33, sm34, sm35, sm36, sm37, sm38]), (9, [sm23, sm24, sm25, sm26, sm27, sm28, sm29, sm30, sm31, sm32]), (57, [sm8, sm9, sm10, sm11, sm12, sm13, sm14, sm15, sm16, sm17, sm18, sm19, sm20, sm21, sm22]), (78, [sm0, sm1, sm2, sm3, sm4, sm5, sm6, sm7])]
theorem VT44 (G : Nat → Option Nat) (D : Hp) : AllV Tryz.prog G D T44 := ⟨fun sm h => by
  simp only [List.mem_cons, List.not_mem_nil, or_false] at h
  rcases h with rfl | rfl | rfl | rfl | rfl
  · exact sv39 G D
  · exact sv40 G D
  · exact sv41 G D
  · exact sv42 G D
  · exact sv43 G D, ⟨fun sm h => by
  simp only [List.mem_cons, List.not_mem_nil, or_false] at h
  rcases h with rfl | rfl | rfl | rfl | rfl | rfl
  · exact sv33 G D
  · exact sv34 G D
  · exact sv35 G D
  · exact sv36 G D
  · exact sv37 G D
  · exact sv38 G D, ⟨fun sm h => by
  simp only [List.mem_cons, List.not_mem_nil, or_false] at h
  rcases h with rfl | rfl | rfl | rfl | rfl | rfl | rfl | rfl | rfl | rfl
  · exact sv23 G D
  · exact sv24 G D
  · exact sv25 G D
  · exact sv26 G D
  · exact sv27 G D
  · exact sv28 G D
  · exact sv29 G D
  · exact sv30 G D
  · exact sv31 G D
  · exact sv32 G D, ⟨fun sm h => by
  simp only [List.mem_cons, List.not_mem_nil, or_false] at h
  rcases h with rfl | rfl | rfl | rfl | rfl | rfl | rfl | rfl | rfl | rfl | rfl | rfl | rfl | rfl | rfl
  · exact sv8 G D
  · exact sv9 G D
  · exact sv10 G D
  · exact sv11 G D
  · exact sv12 G D
  · exact sv13 G D
  · exact sv14 G D
  · exact sv15 G D
  · exact sv16 G D
  · exact sv17 G D
  · exact sv18 G D
  · exact sv19 G D
  · exact sv20 G D
  · exact sv21 G D
  · exact sv22 G D, ⟨fun sm h => by
  simp only [List.mem_cons, List.not_mem_nil, or_false] at h
  rcases h with rfl | rfl | rfl | rfl | rfl | rfl | rfl | rfl
  · exact sv0 G D
  · exact sv1 G D
  · exact sv2 G D
  · exact sv3 G D
  · exact sv4 G D
  · exact sv5 G D
  · exact sv6 G D
  · exact sv7 G D, trivial⟩⟩⟩⟩⟩
noncomputable def M44 : TT (SV × SP) := evFnD (cfgT F (fun _ => none) hpE T44) 2000 88 (patAs 0 [(false, [(.lit (.int .u32 (.lit 0)))]), (false, [(.lit (.int .i64 (.lit 3)))]), (false, [(.lit (.int .u32 (.lit 24)))]), (false, [(.lit (.int .i64 (.lit 1)))]), (false, [(.lit (.int .i64 (.lit 256)))]), (false, [(.lit .nilSlice)])]) ⟨hpE, []⟩
def spc44 : PC := []
def r44_0c0 : RT := (.leaf (.agg [(.int .i64 (.lit 1)), (.int .u32 (.lit 24)), (.int .u32 (.lit 0)), (.int .u32 (.lit 0)), (.int .u32 (.lit 0))]))
theorem r44_0k0 : r44_0c0.ok 0 M44 spc44 = true := by kernel_rfl
def sm44 : Sm := ⟨[(false, [(.lit (.int .u32 (.lit 0)))]), (false, [(.lit (.int .i64 (.lit 3)))]), (false, [(.lit (.int .u32 (.lit 24)))]), (false, [(.lit (.int .i64 (.lit 1)))]), (false, [(.lit (.int .i64 (.lit 256)))]), (false, [(.lit .nilSlice)])], false, r44_0c0⟩
theorem sv44 (G : Nat → Option Nat) (D : Hp) : SmValid Tryz.prog (GofSm G sm44) (DofSm D sm44) 88 sm44 := smValid0 (T := T44) (fuel := 2000) mixed hF (VT44 _ _) rfl r44_0k0
def T45 : List (Nat × List Sm) := [(88, [sm39, sm40, sm41, sm42, sm43, sm44]), (17, [sm33, sm34, sm35, sm36, sm37, sm38]), (9, [sm23, sm24, sm25, sm26, sm27, sm28, sm29, sm30, sm31, sm32]), (57, [sm8, sm9, sm10, sm11, sm12, sm13, sm14, sm15, sm16, sm17, sm18, sm19, sm20, sm21, sm22]), (78, [sm0, sm1, sm2, sm3, sm4, sm5, sm6, sm7])]
theorem VT45 (G : Nat → Option Nat) (D : Hp) : AllV Tryz.prog G D T45 := ⟨fun sm h => by
  simp only [List.mem_cons, List.not_mem_nil, or_false] at h
  rcases h with rfl | rfl | rfl | rfl | rfl | rfl
  · exact sv39 G D
  · exact sv40 G D
  · exact sv41 G D
  · exact sv42 G D
  · exact sv43 G D
  · exact sv44 G D, ⟨fun sm h => by
  simp only [List.mem_cons, List.not_mem_nil, or_false] at h
  rcases h with rfl | rfl | rfl | rfl | rfl | rfl
  · exact sv33 G D
  · exact sv34 G D
  · exact sv35 G D
  · exact sv36 G D
  · exact sv37 G D
  · exact sv38 G D, ⟨fun sm h => by
  simp only [List.mem_cons, List.not_mem_nil, or_false] at h
  rcases h with rfl | rfl | rfl | rfl | rfl | rfl | rfl | rfl | rfl | rfl
  · exact sv23 G D
  · exact sv24 G D
  · exact sv25 G D
  · exact sv26 G D
  · exact sv27 G D
  · exact sv28 G D
  · exact sv29 G D
  · exact sv30 G D
  · exact sv31 G D
  · exact sv32 G D, ⟨fun sm h => by
  simp only [List.mem_cons, List.not_mem_nil, or_false] at h
  rcases h with rfl | rfl | rfl | rfl | rfl | rfl | rfl | rfl | rfl | rfl | rfl | rfl | rfl | rfl | rfl
  · exact sv8 G D
  · exact sv9 G D
  · exact sv10 G D
  · exact sv11 G D
  · exact sv12 G D
  · exact sv13 G D
  · exact sv14 G D
  · exact sv15 G D
  · exact sv16 G D
  · exact sv17 G D
  · exact sv18 G D
  · exact sv19 G D
  · exact sv20 G D
  · exact sv21 G D
  · exact sv22 G D, ⟨fun sm h => by
  simp only [List.mem_cons, List.not_mem_nil, or_false] at h
  rcases h with rfl | rfl | rfl | rfl | rfl | rfl | rfl | rfl
  · exact sv0 G D
  · exact sv1 G D
  · exact sv2 G D
  · exact sv3 G D
  · exact sv4 G D
  · exact sv5 G D
  · exact sv6 G D
  · exact sv7 G D, trivial⟩⟩⟩⟩⟩
noncomputable def M45 : TT (SV × SP) := evFnD (cfgT F (fun _ => none) hpE T45) 2000 88 (patAs 0 [(false, [(.lit (.int .u32 (.lit 0)))]), (false, [(.lit (.int .i64 (.lit 3)))]), (false, [(.lit (.int .u32 (.lit 28)))]), (false, [(.lit (.int .i64 (.lit 1)))]), (false, [(.lit (.int .i64 (.lit 256)))]), (false, [(.lit .nilSlice)])]) ⟨hpE, []⟩
def spc45 : PC := []
def r45_0c0 : RT := (.leaf (.agg [(.int .i64 (.lit 1)), (.int .u32 (.lit 28)), (.int .u32 (.lit 0)), (.int .u32 (.lit 0)), (.int .u32 (.lit 0))]))
theorem r45_0k0 : r45_0c0.ok 0 M45 spc45 = true := by kernel_rfl
def sm45 : Sm := ⟨[(false, [(.lit (.int .u32 (.lit 0)))]), (false, [(.lit (.int .i64 (.lit 3)))]), (false, [(.lit (.int .u32 (.lit 28)))]), (false, [(.lit (.int .i64 (.lit 1)))]), (false, [(.lit (.int .i64 (.lit 256)))]), (false, [(.lit .nilSlice)])], false, r45_0c0⟩
theorem sv45 (G : Nat → Option Nat) (D : Hp) : SmValid Tryz.prog (GofSm G sm45) (DofSm D sm45) 88 sm45 := smValid0 (T := T45) (fuel := 2000) mixed hF (VT45 _ _) rfl r45_0k0
def T46 : List (Nat × List Sm) := [(88, [sm39, sm40, sm41, sm42, sm43, sm44, sm45]), (17, [sm33, sm34, sm35, sm36, sm37, sm38]), (9, [sm23, sm24, sm25, sm26, sm27, sm28, sm29, sm30, sm31, sm32]), (57, [sm8, sm9, sm10, sm11, sm12, sm13, sm14, sm15, sm16, sm17, sm18, sm19, sm20, sm21, sm22]), (78, [sm0, sm1, sm2, sm3, sm4, sm5, sm6, sm7])]
theorem VT46 (G : Nat → Option Nat) (D : Hp) : AllV Tryz.prog G D T46 := ⟨fun sm h => by
  simp only [List.mem_cons, List.not_mem_nil, or_false] at h
  rcases h with rfl | rfl | rfl | rfl | rfl | rfl | rfl
  · exact sv39 G D
  · exact sv40 G D
  · exact sv41 G D
  · exact sv42 G D
  · exact sv43 G D
  · exact sv44 G D
  · exact sv45 G D, ⟨fun sm h => by
  simp only [List.mem_cons, List.not_mem_nil, or_false] at h
  rcases h with rfl | rfl | rfl | rfl | rfl | rfl
  · exact sv33 G D
  · exact sv34 G D
  · exact sv35 G D
  · exact sv36 G D
  · exact sv37 G D
  · exact sv38 G D, ⟨fun sm h => by
  simp only [List.mem_cons, List.not_mem_nil, or_false] at h
  rcases h with rfl | rfl | rfl | rfl | rfl | rfl | rfl | rfl | rfl | rfl
  · exact sv23 G D
  · exact sv24 G D
  · exact sv25 G D
  · exact sv26 G D
  · exact sv27 G D
  · exact sv28 G D
  · exact sv29 G D
  · exact sv30 G D
  · exact sv31 G D
  · exact sv32 G D, ⟨fun sm h => by
  simp only [List.mem_cons, List.not_mem_nil, or_false] at h
  rcases h with rfl | rfl | rfl | rfl | rfl | rfl | rfl | rfl | rfl | rfl | rfl | rfl | rfl | rfl | rfl
  · exact sv8 G D
  · exact sv9 G D
  · exact sv10 G D
  · exact sv11 G D
  · exact sv12 G D
  · exact sv13 G D
  · exact sv14 G D
  · exact sv15 G D
  · exact sv16 G D
  · exact sv17 G D
  · exact sv18 G D
  · exact sv19 G D
  · exact sv20 G D
  · exact sv21 G D
  · exact sv22 G D, ⟨fun sm h => by
  simp only [List.mem_cons, List.not_mem_nil, or_false] at h
  rcases h with rfl | rfl | rfl | rfl | rfl | rfl | rfl | rfl
  · exact sv0 G D
  · exact sv1 G D
  · exact sv2 G D
  · exact sv3 G D
  · exact sv4 G D
  · exact sv5 G D
  · exact sv6 G D
  · exact sv7 G D, trivial⟩⟩⟩⟩⟩
noncomputable def M46 : TT (SV × SP) := evFnD (cfgT F (fun _ => none) hpE T46) 2000 88 (patAs 0 [(false, [(.lit (.int .u32 (.lit 0)))]), (false, [(.lit (.int .i64 (.lit 3)))]), (false, [(.lit (.int .u32 (.lit 32)))]), (false, [(.lit (.int .i64 (.lit 1)))]), (false, [(.lit (.int .i64 (.lit 256)))]), (false, [(.lit .nilSlice)])]) ⟨hpE, []⟩
def spc46 : PC := []
def r46_0c0 : RT := (.leaf (.agg [(.int .i64 (.lit 1)), (.int .u32 (.lit 32)), (.int .u32 (.lit 0)), (.int .u32 (.lit 0)), (.int .u32 (.lit 0))]))
theorem r46_0k0 : r46_0c0.ok 0 M46 spc46 = true := by kernel_rfl
def sm46 : Sm := ⟨[(false, [(.lit (.int .u32 (.lit 0)))]), (false, [(.lit (.int .i64 (.lit 3)))]), (false, [(.lit (.int .u32 (.lit 32)))]), (false, [(.lit (.int .i64 (.lit 1)))]), (false, [(.lit (.int .i64 (.lit 256)))]), (false, [(.lit .nilSlice)])], false, r46_0c0⟩
theorem sv46 (G : Nat → Option Nat) (D : Hp) : SmValid Tryz.prog (GofSm G sm46) (DofSm D sm46) 88 sm46 := smValid0 (T := T46) (fuel := 2000) mixed hF (VT46 _ _) rfl r46_0k0
def T47 : List (Nat × List Sm) := [(88, [sm39, sm40, sm41, sm42, sm43, sm44, sm45, sm46]), (17, [sm33, sm34, sm35, sm36, sm37, sm38]), (9, [sm23, sm24, sm25, sm26, sm27, sm28, sm29, sm30, sm31, sm32]), (57, [sm8, sm9, sm10, sm11, sm12, sm13, sm14, sm15, sm16, sm17, sm18, sm19, sm20, sm21, sm22]), (78, [sm0, sm1, sm2, sm3, sm4, sm5, sm6, sm7])]
theorem VT47 (G : Nat → Option Nat) (D : Hp) : AllV Tryz.prog G D T47 := ⟨fun sm h => by
  simp only [List.mem_cons, List.not_mem_nil, or_false] at h
  rcases h with rfl | rfl | rfl | rfl | rfl | rfl | rfl | rfl
  · exact sv39 G D
  · exact sv40 G D
  · exact sv41 G D
  · exact sv42 G D
  · exact sv43 G D
  · exact sv44 G D
  · exact sv45 G D
  · exact sv46 G D, ⟨fun sm h => by
  simp only [List.mem_cons, List.not_mem_nil, or_false] at h
  rcases h with rfl | rfl | rfl | rfl | rfl | rfl
  · exact sv33 G D
  · exact sv34 G D
  · exact sv35 G D
  · exact sv36 G D
  · exact sv37 G D
  · exact sv38 G D, ⟨fun sm h => by
  simp only [List.mem_cons, List.not_mem_nil, or_false] at h
  rcases h with rfl | rfl | rfl | rfl | rfl | rfl | rfl | rfl | rfl | rfl
  · exact sv23 G D
  · exact sv24 G D
  · exact sv25 G D
  · exact sv26 G D
  · exact sv27 G D
  · exact sv28 G D
  · exact sv29 G D
  · exact sv30 G D
  · exact sv31 G D
  · exact sv32 G D, ⟨fun sm h => by
  simp only [List.mem_cons, List.not_mem_nil, or_false] at h
  rcases h with rfl | rfl | rfl | rfl | rfl | rfl | rfl | rfl | rfl | rfl | rfl | rfl | rfl | rfl | rfl
  · exact sv8 G D
  · exact sv9 G D
  · exact sv10 G D
  · exact sv11 G D
  · exact sv12 G D
  · exact sv13 G D
  · exact sv14 G D
  · exact sv15 G D
  · exact sv16 G D
  · exact sv17 G D
  · exact sv18 G D
  · exact sv19 G D
  · exact sv20 G D
  · exact sv21 G D
  · exact sv22 G D, ⟨fun sm h => by
  simp only [List.mem_cons, List.not_mem_nil, or_false] at h
  rcases h with rfl | rfl | rfl | rfl | rfl | rfl | rfl | rfl
  · exact sv0 G D
  · exact sv1 G D
  · exact sv2 G D
  · exact sv3 G D
  · exact sv4 G D
  · exact sv5 G D
  · exact sv6 G D
  · exact sv7 G D, trivial⟩⟩⟩⟩⟩
noncomputable def M47 : TT (SV × SP) := evFnD (cfgT F (fun _ => none) hpE T47) 2000 88 (patAs 0 [(false, [(.lit (.int .u32 (.lit 0)))]), (false, [(.lit (.int .i64 (.lit 3)))]), (false, [(.lit (.int .u32 (.lit 36)))]), (false, [(.lit (.int .i64 (.lit 1)))]), (false, [(.lit (.int .i64 (.lit 256)))]), (false, [(.lit .nilSlice)])]) ⟨hpE, []⟩
def spc47 : PC := []
def r47_0c0 : RT := (.leaf (.agg [(.int .i64 (.lit 1)), (.int .u32 (.lit 36)), (.int .u32 (.lit 0)), (.int .u32 (.lit 0)), (.int .u32 (.lit 0))]))
theorem r47_0k0 : r47_0c0.ok 0 M47 spc47 = true := by kernel_rfl
def sm47 : Sm := ⟨[(false, [(.lit (.int .u32 (.lit 0)))]), (false, [(.lit (.int .i64 (.lit 3)))]), (false, [(.lit (.int .u32 (.lit 36)))]), (false, [(.lit (.int .i64 (.lit 1)))]), (false, [(.lit (.int .i64 (.lit 256)))]), (false, [(.lit .nilSlice)])], false, r47_0c0⟩
theorem sv47 (G : Nat → Option Nat) (D : Hp) : SmValid Tryz.prog (GofSm G sm47) (DofSm D sm47) 88 sm47 := smValid0 (T := T47) (fuel := 2000) mixed hF (VT47 _ _) rfl r47_0k0
def T48 : List (Nat × List Sm) := [(88, [sm39, sm40, sm41, sm42, sm43, sm44, sm45, sm46, sm47]), (17, [sm33, sm34, sm35, sm36, sm37, sm38]), (9, [sm23, sm24, sm25, sm26, sm27, sm28, sm29, sm30, sm31, sm32]), (57, [sm8, sm9, sm10, sm11, sm12, sm13, sm14, sm15, sm16, sm17, sm18, sm19, sm20, sm21, sm22]), (78, [sm0, sm1, sm2, sm3, sm4, sm5, sm6, sm7])]
theorem VT48 (G : Nat → Option Nat) (D : Hp) : AllV Tryz.prog G D T48 := ⟨fun sm h => by
  simp only [List.mem_cons, List.not_mem_nil, or_false] at h
  rcases h with rfl | rfl | rfl | rfl | rfl | rfl | rfl | rfl | rfl
  · exact sv39 G D
  · exact sv40 G D
  · exact sv41 G D
  · exact sv42 G D
  · exact sv43 G D
  · exact sv44 G D
  · exact sv45 G D
  · exact sv46 G D
  · exact sv47 G D, ⟨fun sm h => by
  simp only [List.mem_cons, List.not_mem_nil, or_false] at h
  rcases h with rfl | rfl | rfl | rfl | rfl | rfl
  · exact sv33 G D
  · exact sv34 G D
  · exact sv35 G D
  · exact sv36 G D
  · exact sv37 G D
  · exact sv38 G D, ⟨fun sm h => by
  simp only [List.mem_cons, List.not_mem_nil, or_false] at h
  rcases h with rfl | rfl | rfl | rfl | rfl | rfl | rfl | rfl | rfl | rfl
  · exact sv23 G D
  · exact sv24 G D
  · exact sv25 G D
  · exact sv26 G D
  · exact sv27 G D
  · exact sv28 G D
  · exact sv29 G D
  · exact sv30 G D
  · exact sv31 G D
  · exact sv32 G D, ⟨fun sm h => by
  simp only [List.mem_cons, List.not_mem_nil, or_false] at h
  rcases h with rfl | rfl | rfl | rfl | rfl | rfl | rfl | rfl | rfl | rfl | rfl | rfl | rfl | rfl | rfl
  · exact sv8 G D
  · exact sv9 G D
  · exact sv10 G D
  · exact sv11 G D
  · exact sv12 G D
  · exact sv13 G D
  · exact sv14 G D
  · exact sv15 G D
  · exact sv16 G D
  · exact sv17 G D
  · exact sv18 G D
  · exact sv19 G D
  · exact sv20 G D
  · exact sv21 G D
  · exact sv22 G D, ⟨fun sm h => by
  simp only [List.mem_cons, List.not_mem_nil, or_false] at h
  rcases h with rfl | rfl | rfl | rfl | rfl | rfl | rfl | rfl
  · exact sv0 G D
  · exact sv1 G D
  · exact sv2 G D
  · exact sv3 G D
  · exact sv4 G D
  · exact sv5 G D
  · exact sv6 G D
  · exact sv7 G D, trivial⟩⟩⟩⟩⟩
noncomputable def M48 : TT (SV × SP) := evFnD (cfgT F (fun _ => none) hpE T48) 2000 88 (patAs 0 [(false, [(.lit (.int .u32 (.lit 0)))]), (false, [(.lit (.int .i64 (.lit 3)))]), (false, [(.lit (.int .u32 (.lit 8)))]), (false, [(.lit (.int .i64 (.lit 1)))]), (false, [(.lit (.int .i64 (.lit 256)))]), (false, [(.lit .nilSlice)])]) ⟨hpE, []⟩
def spc48 : PC := []
def r48_0c0 : RT := (.leaf (.agg [(.int .i64 (.lit 1)), (.int .u32 (.lit 8)), (.int .u32 (.lit 0)), (.int .u32 (.lit 0)), (.int .u32 (.lit 0))]))
theorem r48_0k0 : r48_0c0.ok 0 M48 spc48 = true := by kernel_rfl
def sm48 : Sm := ⟨[(false, [(.lit (.int .u32 (.lit 0)))]), (false, [(.lit (.int .i64 (.lit 3)))]), (false, [(.lit (.int .u32 (.lit 8)))]), (false, [(.lit (.int .i64 (.lit 1)))]), (false, [(.lit (.int .i64 (.lit 256)))]), (false, [(.lit .nilSlice)])], false, r48_0c0⟩
theorem sv48 (G : Nat → Option Nat) (D : Hp) : SmValid Tryz.prog (GofSm G sm48) (DofSm D sm48) 88 sm48 := smValid0 (T := T48) (fuel := 2000) mixed hF (VT48 _ _) rfl r48_0k0
def T49 : List (Nat × List Sm) := [(88, [sm39, sm40, sm41, sm42, sm43, sm44, sm45, sm46, sm47, sm48]), (17, [sm33, sm34, sm35, sm36, sm37, sm38]), (9, [sm23, sm24, sm25, sm26, sm27, sm28, sm29, sm30, sm31, sm32]), (57, [sm8, sm9, sm10, sm11, sm12, sm13, sm14, sm15, sm16, sm17, sm18, sm19, sm20, sm21, sm22]), (78, [sm0, sm1, sm2, sm3, sm4, sm5, sm6, sm7])]
theorem VT49 (G : Nat → Option Nat) (D : Hp) : AllV Tryz.prog G D T49 := ⟨fun sm h => by
  simp only [List.mem_cons, List.not_mem_nil, or_false] at h
  rcases h with rfl | rfl | rfl | rfl | rfl | rfl | rfl | rfl | rfl | rfl
  · exact sv39 G D
  · exact sv40 G D
  · exact sv41 G D
  · exact sv42 G D
  · exact sv43 G D
  · exact sv44 G D
  · exact sv45 G D
  · exact sv46 G D
  · exact sv47 G D
  · exact sv48 G D, ⟨fun sm h => by
  simp only [List.mem_cons, List.not_mem_nil, or_false] at h
  rcases h with rfl | rfl | rfl | rfl | rfl | rfl
  · exact sv33 G D
  · exact sv34 G D
  · exact sv35 G D
  · exact sv36 G D
  · exact sv37 G D
  · exact sv38 G D, ⟨fun sm h => by
  simp only [List.mem_cons, List.not_mem_nil, or_false] at h
  rcases h with rfl | rfl | rfl | rfl | rfl | rfl | rfl | rfl | rfl | rfl
  · exact sv23 G D
  · exact sv24 G D
  · exact sv25 G D
  · exact sv26 G D
  · exact sv27 G D
  · exact sv28 G D
  · exact sv29 G D
  · exact sv30 G D
  · exact sv31 G D
  · exact sv32 G D, ⟨fun sm h => by
  simp only [List.mem_cons, List.not_mem_nil, or_false] at h
  rcases h with rfl | rfl | rfl | rfl | rfl | rfl | rfl | rfl | rfl | rfl | rfl | rfl | rfl | rfl | rfl
  · exact sv8 G D
  · exact sv9 G D
  · exact sv10 G D
  · exact sv11 G D
  · exact sv12 G D
  · exact sv13 G D
  · exact sv14 G D
  · exact sv15 G D
  · exact sv16 G D
  · exact sv17 G D
  · exact sv18 G D
  · exact sv19 G D
  · exact sv20 G D
  · exact sv21 G D
  · exact sv22 G D, ⟨fun sm h => by
  simp only [List.mem_cons, List.not_mem_nil, or_false] at h
  rcases h with rfl | rfl | rfl | rfl | rfl | rfl | rfl | rfl
  · exact sv0 G D
  · exact sv1 G D
  · exact sv2 G D
  · exact sv3 G D
  · exact sv4 G D
  · exact sv5 G D
  · exact sv6 G D
  · exact sv7 G D, trivial⟩⟩⟩⟩⟩
noncomputable def M49 : TT (SV × SP) := evFnD (cfgT F (fun _ => none) hpE T49) 2000 88 (patAs 0 [(false, [(.lit (.int .u32 (.lit 0)))]), (false, [(.lit (.int .i64 (.lit 3)))]), (false, [(.lit (.int .u32 (.lit 60)))]), (false, [(.lit (.int .i64 (.lit 2)))]), (false, [(.lit (.int .i64 (.lit 256)))]), (false, [(.lit .nilSlice)])]) ⟨hpE, []⟩
def spc49 : PC := []
def r49_0c0 : RT := (.leaf (.agg [(.int .i64 (.lit 1)), (.int .u32 (.lit 60)), (.int .u32 (.lit 0)), (.int .u32 (.lit 0)), (.int .u32 (.lit 0))]))
theorem r49_0k0 : r49_0c0.ok 0 M49 spc49 = true := by kernel_rfl
def sm49 : Sm := ⟨[(false, [(.lit (.int .u32 (.lit 0)))]), (false, [(.lit (.int .i64 (.lit 3)))]), (false, [(.lit (.int .u32 (.lit 60)))]), (false, [(.lit (.int .i64 (.lit 2)))]), (false, [(.lit (.int .i64 (.lit 256)))]), (false, [(.lit .nilSlice)])], false, r49_0c0⟩
theorem sv49 (G : Nat → Option Nat) (D : Hp) : SmValid Tryz.prog (GofSm G sm49) (DofSm D sm49) 88 sm49 := smValid0 (T := T49) (fuel := 2000) mixed hF (VT49 _ _) rfl r49_0k0
def T50 : List (Nat × List Sm) := [(88, [sm39, sm40, sm41, sm42, sm43, sm44, sm45, sm46, sm47, sm48, sm49]), (17, [sm33, sm34, sm35, sm36, sm37, sm38]), (9, [sm23, sm24, sm25, sm26, sm27, sm28, sm29, sm30, sm31, sm32]), (57, [sm8, sm9, sm10, sm11, sm12, sm13, sm14, sm15, sm16, sm17, sm18, sm19, sm20, sm21, sm22]), (78, [sm0, sm1, sm2, sm3, sm4, sm5, sm6, sm7])]
theorem VT50 (G : Nat → Option Nat) (D : Hp) : AllV Tryz.prog G D T50 := ⟨fun sm h => by
  simp only [List.mem_cons, List.not_mem_nil, or_false] at h
  rcases h with rfl | rfl | rfl | rfl | rfl | rfl | rfl | rfl | rfl | rfl | rfl
  · exact sv39 G D
  · exact sv40 G D
  · exact sv41 G D
  · exact sv42 G D
  · exact sv43 G D
  · exact sv44 G D
  · exact sv45 G D
  · exact sv46 G D
  · exact sv47 G D
  · exact sv48 G D
  · exact sv49 G D, ⟨fun sm h => by
  simp only [List.mem_cons, List.not_mem_nil, or_false] at h
  rcases h with rfl | rfl | rfl | rfl | rfl | rfl
  · exact sv33 G D
  · exact sv34 G D
  · exact sv35 G D
  · exact sv36 G D
  · exact sv37 G D
  · exact sv38 G D, ⟨fun sm h => by
  simp only [List.mem_cons, List.not_mem_nil, or_false] at h
  rcases h with rfl | rfl | rfl | rfl | rfl | rfl | rfl | rfl | rfl | rfl
  · exact sv23 G D
  · exact sv24 G D
  · exact sv25 G D
  · exact sv26 G D
  · exact sv27 G D
  · exact sv28 G D
  · exact sv29 G D
  · exact sv30 G D
  · exact sv31 G D
  · exact sv32 G D, ⟨fun sm h => by
  simp only [List.mem_cons, List.not_mem_nil, or_false] at h
  rcases h with rfl | rfl | rfl | rfl | rfl | rfl | rfl | rfl | rfl | rfl | rfl | rfl | rfl | rfl | rfl
  · exact sv8 G D
  · exact sv9 G D
  · exact sv10 G D
  · exact sv11 G D
  · exact sv12 G D
  · exact sv13 G D
  · exact sv14 G D
  · exact sv15 G D
  · exact sv16 G D
  · exact sv17 G D
  · exact sv18 G D
  · exact sv19 G D
  · exact sv20 G D
  · exact sv21 G D
  · exact sv22 G D, ⟨fun sm h => by
  simp only [List.mem_cons, List.not_mem_nil, or_false] at h
  rcases h with rfl | rfl | rfl | rfl | rfl | rfl | rfl | rfl
  · exact sv0 G D
  · exact sv1 G D
  · exact sv2 G D
  · exact sv3 G D
  · exact sv4 G D
  · exact sv5 G D
  · exact sv6 G D
  · exact sv7 G D, trivial⟩⟩⟩⟩⟩
noncomputable def M50 : TT (SV × SP) := evFnD (cfgT F (fun _ => none) hpE T50) 2000 88 (patAs 0 [(false, [(.lit (.int .u32 (.lit 0)))]), (false, [(.lit (.int .i64 (.lit 3)))]), (false, [(.lit (.int .u32 (.lit 12)))]), (false, [(.lit (.int .i64 (.lit 1)))]), (false, [(.lit (.int .i64 (.lit 256)))]), (false, [(.lit .nilSlice)])]) ⟨hpE, []⟩
def spc50 : PC := []
def r50_0c0 : RT := (.leaf (.agg [(.int .i64 (.lit 1)), (.int .u32 (.lit 12)), (.int .u32 (.lit 0)), (.int .u32 (.lit 0)), (.int .u32 (.lit 0))]))
theorem r50_0k0 : r50_0c0.ok 0 M50 spc50 = true := by kernel_rfl
def sm50 : Sm := ⟨[(false, [(.lit (.int .u32 (.lit 0)))]), (false, [(.lit (.int .i64 (.lit 3)))]), (false, [(.lit (.int .u32 (.lit 12)))]), (false, [(.lit (.int .i64 (.lit 1)))]), (false, [(.lit (.int .i64 (.lit 256)))]), (false, [(.lit .nilSlice)])], false, r50_0c0⟩
theorem sv50 (G : Nat → Option Nat) (D : Hp) : SmValid Tryz.prog (GofSm G sm50) (DofSm D sm50) 88 sm50 := smValid0 (T := T50) (fuel := 2000) mixed hF (VT50 _ _) rfl r50_0k0
def T51 : List (Nat × List Sm) := [(88, [sm39, sm40, sm41, sm42, sm43, sm44, sm45, sm46, sm47, sm48, sm49, sm50]), (17, [sm33, sm34, sm35, sm36, sm37, sm38]), (9, [sm23, sm24, sm25, sm26, sm27, sm28, sm29, sm30, sm31, sm32]), (57, [sm8, sm9, sm10, sm11, sm12, sm13, sm14, sm15, sm16, sm17, sm18, sm19, sm20, sm21, sm22]), (78, [sm0, sm1, sm2, sm3, sm4, sm5, sm6, sm7])]
theorem VT51 (G : Nat → Option Nat) (D : Hp) : AllV Tryz.prog G D T51 := ⟨fun sm h => by
  simp only [List.mem_cons, List.not_mem_nil, or_false] at h
  rcases h with rfl | rfl | rfl | rfl | rfl | rfl | rfl | rfl | rfl | rfl | rfl | rfl
  · exact sv39 G D
  · exact sv40 G D
  · exact sv41 G D
  · exact sv42 G D
  · exact sv43 G D
  · exact sv44 G D
  · exact sv45 G D
  · exact sv46 G D
  · exact sv47 G D
  · exact sv48 G D
  · exact sv49 G D
  · exact sv50 G D, ⟨fun sm h => by
  simp only [List.mem_cons, List.not_mem_nil, or_false] at h
  rcases h with rfl | rfl | rfl | rfl | rfl | rfl
  · exact sv33 G D
  · exact sv34 G D
  · exact sv35 G D
  · exact sv36 G D
  · exact sv37 G D
  · exact sv38 G D, ⟨fun sm h => by
  simp only [List.mem_cons, List.not_mem_nil, or_false] at h
  rcases h with rfl | rfl | rfl | rfl | rfl | rfl | rfl | rfl | rfl | rfl
  · exact sv23 G D
  · exact sv24 G D
  · exact sv25 G D
  · exact sv26 G D
  · exact sv27 G D
  · exact sv28 G D
  · exact sv29 G D
  · exact sv30 G D
  · exact sv31 G D
  · exact sv32 G D, ⟨fun sm h => by
  simp only [List.mem_cons, List.not_mem_nil, or_false] at h
  rcases h with rfl | rfl | rfl | rfl | rfl | rfl | rfl | rfl | rfl | rfl | rfl | rfl | rfl | rfl | rfl
  · exact sv8 G D
  · exact sv9 G D
  · exact sv10 G D
  · exact sv11 G D
  · exact sv12 G D
  · exact sv13 G D
  · exact sv14 G D
  · exact sv15 G D
  · exact sv16 G D
  · exact sv17 G D
  · exact sv18 G D
  · exact sv19 G D
  · exact sv20 G D
  · exact sv21 G D
  · exact sv22 G D, ⟨fun sm h => by
  simp only [List.mem_cons, List.not_mem_nil, or_false] at h
  rcases h with rfl | rfl | rfl | rfl | rfl | rfl | rfl | rfl
  · exact sv0 G D
  · exact sv1 G D
  · exact sv2 G D
  · exact sv3 G D
  · exact sv4 G D
  · exact sv5 G D
  · exact sv6 G D
  · exact sv7 G D, trivial⟩⟩⟩⟩⟩
noncomputable def M51 : TT (SV × SP) := evFnD (cfgT F (fun _ => none) hpE T51) 2000 88 (patAs 0 [(false, [(.lit (.int .u32 (.lit 0)))]), (false, [(.lit (.int .i64 (.lit 3)))]), (false, [(.lit (.int .u32 (.lit 16)))]), (false, [(.lit (.int .i64 (.lit 1)))]), (false, [(.lit (.int .i64 (.lit 256)))]), (false, [(.lit .nilSlice)])]) ⟨hpE, []⟩
def spc51 : PC := []
def r51_0c0 : RT := (.leaf (.agg [(.int .i64 (.lit 1)), (.int .u32 (.lit 16)), (.int .u32 (.lit 0)), (.int .u32 (.lit 0)), (.int .u32 (.lit 0))]))
theorem r51_0k0 : r51_0c0.ok 0 M51 spc51 = true := by kernel_rfl
def sm51 : Sm := ⟨[(false, [(.lit (.int .u32 (.lit 0)))]), (false, [(.lit (.int .i64 (.lit 3)))]), (false, [(.lit (.int .u32 (.lit 16)))]), (false, [(.lit (.int .i64 (.lit 1)))]), (false, [(.lit (.int .i64 (.lit 256)))]), (false, [(.lit .nilSlice)])], false, r51_0c0⟩
theorem sv51 (G : Nat → Option Nat) (D : Hp) : SmValid Tryz.prog (GofSm G sm51) (DofSm D sm51) 88 sm51 := smValid0 (T := T51) (fuel := 2000) mixed hF (VT51 _ _) rfl r51_0k0
def T52 : List (Nat × List Sm) := [(88, [sm39, sm40, sm41, sm42, sm43, sm44, sm45, sm46, sm47, sm48, sm49, sm50, sm51]), (17, [sm33, sm34, sm35, sm36, sm37, sm38]), (9, [sm23, sm24, sm25, sm26, sm27, sm28, sm29, sm30, sm31, sm32]), (57, [sm8, sm9, sm10, sm11, sm12, sm13, sm14, sm15, sm16, sm17, sm18, sm19, sm20, sm21, sm22]), (78, [sm0, sm1, sm2, sm3, sm4, sm5, sm6, sm7])]
theorem VT52 (G : Nat → Option Nat) (D : Hp) : AllV Tryz.prog G D T52 := ⟨fun sm h => by
  simp only [List.mem_cons, List.not_mem_nil, or_false] at h
  rcases h with rfl | rfl | rfl | rfl | rfl | rfl | rfl | rfl | rfl | rfl | rfl | rfl | rfl
  · exact sv39 G D
  · exact sv40 G D
  · exact sv41 G D
  · exact sv42 G D
  · exact sv43 G D
  · exact sv44 G D
  · exact sv45 G D
  · exact sv46 G D
  · exact sv47 G D
  · exact sv48 G D
  · exact sv49 G D
  · exact sv50 G D
  · exact sv51 G D, ⟨fun sm h => by
  simp only [List.mem_cons, List.not_mem_nil, or_false] at h
  rcases h with rfl | rfl | rfl | rfl | rfl | rfl
  · exact sv33 G D
  · exact sv34 G D
  · exact sv35 G D
  · exact sv36 G D
  · exact sv37 G D
  · exact sv38 G D, ⟨fun sm h => by
  simp only [List.mem_cons, List.not_mem_nil, or_false] at h
  rcases h with rfl | rfl | rfl | rfl | rfl | rfl | rfl | rfl | rfl | rfl
  · exact sv23 G D
  · exact sv24 G D
  · exact sv25 G D
  · exact sv26 G D
  · exact sv27 G D
  · exact sv28 G D
  · exact sv29 G D
  · exact sv30 G D
  · exact sv31 G D
  · exact sv32 G D, ⟨fun sm h => by
  simp only [List.mem_cons, List.not_mem_nil, or_false] at h
  rcases h with rfl | rfl | rfl | rfl | rfl | rfl | rfl | rfl | rfl | rfl | rfl | rfl | rfl | rfl | rfl
  · exact sv8 G D
  · exact sv9 G D
  · exact sv10 G D
  · exact sv11 G D
  · exact sv12 G D
  · exact sv13 G D
  · exact sv14 G D
  · exact sv15 G D
  · exact sv16 G D
  · exact sv17 G D
  · exact sv18 G D
  · exact sv19 G D
  · exact sv20 G D
  · exact sv21 G D
  · exact sv22 G D, ⟨fun sm h => by
  simp only [List.mem_cons, List.not_mem_nil, or_false] at h
  rcases h with rfl | rfl | rfl | rfl | rfl | rfl | rfl | rfl
  · exact sv0 G D
  · exact sv1 G D
  · exact sv2 G D
  · exact sv3 G D
  · exact sv4 G D
  · exact sv5 G D
  · exact sv6 G D
  · exact sv7 G D, trivial⟩⟩⟩⟩⟩
noncomputable def M52 : TT (SV × SP) := evFnD (cfgT F (fun _ => none) hpE T52) 2000 88 (patAs 0 [(false, [(.lit (.int .u32 (.lit 0)))]), (false, [(.lit (.int .i64 (.lit 3)))]), (false, [(.lit (.int .u32 (.lit 1073741828)))]), (false, [(.lit (.int .i64 (.lit 3)))]), (false, [(.lit (.int .i64 (.lit 256)))]), (false, [(.lit .nilSlice)])]) ⟨hpE, []⟩
def spc52 : PC := []
def r52_0c0 : RT := (.leaf (.agg [(.int .i64 (.lit 1)), (.int .u32 (.lit 1073741828)), (.int .u32 (.lit 0)), (.int .u32 (.lit 0)), (.int .u32 (.lit 0))]))
theorem r52_0k0 : r52_0c0.ok 0 M52 spc52 = true := by kernel_rfl
def sm52 : Sm := ⟨[(false, [(.lit (.int .u32 (.lit 0)))]), (false, [(.lit (.int .i64 (.lit 3)))]), (false, [(.lit (.int .u32 (.lit 1073741828)))]), (false, [(.lit (.int .i64 (.lit 3)))]), (false, [(.lit (.int .i64 (.lit 256)))]), (false, [(.lit .nilSlice)])], false, r52_0c0⟩
theorem sv52 (G : Nat → Option Nat) (D : Hp) : SmValid Tryz.prog (GofSm G sm52) (DofSm D sm52) 88 sm52 := smValid0 (T := T52) (fuel := 2000) mixed hF (VT52 _ _) rfl r52_0k0
def T53 : List (Nat × List Sm) := [(88, [sm39, sm40, sm41, sm42, sm43, sm44, sm45, sm46, sm47, sm48, sm49, sm50, sm51, sm52]), (17, [sm33, sm34, sm35, sm36, sm37, sm38]), (9, [sm23, sm24, sm25, sm26, sm27, sm28, sm29, sm30, sm31, sm32]), (57, [sm8, sm9, sm10, sm11, sm12, sm13, sm14, sm15, sm16, sm17, sm18, sm19, sm20, sm21, sm22]), (78, [sm0, sm1, sm2, sm3, sm4, sm5, sm6, sm7])]
theorem VT53 (G : Nat → Option Nat) (D : Hp) : AllV Tryz.prog G D T53 := ⟨fun sm h => by
  simp only [List.mem_cons, List.not_mem_nil, or_false] at h
  rcases h with rfl | rfl | rfl | rfl | rfl | rfl | rfl | rfl | rfl | rfl | rfl | rfl | rfl | rfl
  · exact sv39 G D
  · exact sv40 G D
  · exact sv41 G D
  · exact sv42 G D
  · exact sv43 G D
  · exact sv44 G D
  · exact sv45 G D
  · exact sv46 G D
  · exact sv47 G D
  · exact sv48 G D
  · exact sv49 G D
  · exact sv50 G D
  · exact sv51 G D
  · exact sv52 G D, ⟨fun sm h => by
  simp only [List.mem_cons, List.not_mem_nil, or_false] at h
  rcases h with rfl | rfl | rfl | rfl | rfl | rfl
  · exact sv33 G D
  · exact sv34 G D
  · exact sv35 G D
  · exact sv36 G D
  · exact sv37 G D
  · exact sv38 G D, ⟨fun sm h => by
  simp only [List.mem_cons, List.not_mem_nil, or_false] at h
  rcases h with rfl | rfl | rfl | rfl | rfl | rfl | rfl | rfl | rfl | rfl
  · exact sv23 G D
  · exact sv24 G D
  · exact sv25 G D
  · exact sv26 G D
  · exact sv27 G D
  · exact sv28 G D
  · exact sv29 G D
  · exact sv30 G D
  · exact sv31 G D
  · exact sv32 G D, ⟨fun sm h => by
  simp only [List.mem_cons, List.not_mem_nil, or_false] at h
  rcases h with rfl | rfl | rfl | rfl | rfl | rfl | rfl | rfl | rfl | rfl | rfl | rfl | rfl | rfl | rfl
  · exact sv8 G D
  · exact sv9 G D
  · exact sv10 G D
  · exact sv11 G D
  · exact sv12 G D
  · exact sv13 G D
  · exact sv14 G D
  · exact sv15 G D
  · exact sv16 G D
  · exact sv17 G D
  · exact sv18 G D
  · exact sv19 G D
  · exact sv20 G D
  · exact sv21 G D
  · exact sv22 G D, ⟨fun sm h => by
  simp only [List.mem_cons, List.not_mem_nil, or_false] at h
  rcases h with rfl | rfl | rfl | rfl | rfl | rfl | rfl | rfl
  · exact sv0 G D
  · exact sv1 G D
  · exact sv2 G D
  · exact sv3 G D
  · exact sv4 G D
  · exact sv5 G D
  · exact sv6 G D
  · exact sv7 G D, trivial⟩⟩⟩⟩⟩
noncomputable def M53 : TT (SV × SP) := evFnD (cfgT F (fun _ => none) hpE T53) 2000 88 (patAs 0 [(false, [(.lit (.int .u32 (.lit 0)))]), (false, [(.lit (.int .i64 (.lit 3)))]), (false, [(.lit (.int .u32 (.lit 40)))]), (false, [(.lit (.int .i64 (.lit 1)))]), (false, [(.lit (.int .i64 (.lit 256)))]), (false, [(.lit .nilSlice)])]) ⟨hpE, []⟩
def spc53 : PC := []
def r53_0c0 : RT := (.leaf (.agg [(.int .i64 (.lit 1)), (.int .u32 (.lit 40)), (.int .u32 (.lit 0)), (.int .u32 (.lit 0)), (.int .u32 (.lit 0))]))
theorem r53_0k0 : r53_0c0.ok 0 M53 spc53 = true := by kernel_rfl
def sm53 : Sm := ⟨[(false, [(.lit (.int .u32 (.lit 0)))]), (false, [(.lit (.int .i64 (.lit 3)))]), (false, [(.lit (.int .u32 (.lit 40)))]), (false, [(.lit (.int .i64 (.lit 1)))]), (false, [(.lit (.int .i64 (.lit 256)))]), (false, [(.lit .nilSlice)])], false, r53_0c0⟩
theorem sv53 (G : Nat → Option Nat) (D : Hp) : SmValid Tryz.prog (GofSm G sm53) (DofSm D sm53) 88 sm53 := smValid0 (T := T53) (fuel := 2000) mixed hF (VT53 _ _) rfl r53_0k0
def T54 : List (Nat × List Sm) := [(88, [sm39, sm40, sm41, sm42, sm43, sm44, sm45, sm46, sm47, sm48, sm49, sm50, sm51, sm52, sm53]), (17, [sm33, sm34, sm35, sm36, sm37, sm38]), (9, [sm23, sm24, sm25, sm26, sm27, sm28, sm29, sm30, sm31, sm32]), (57, [sm8, sm9, sm10, sm11, sm12, sm13, sm14, sm15, sm16, sm17, sm18, sm19, sm20, sm21, sm22]), (78, [sm0, sm1, sm2, sm3, sm4, sm5, sm6, sm7])]
theorem VT54 (G : Nat → Option Nat) (D : Hp) : AllV Tryz.prog G D T54 := ⟨fun sm h => by
  simp only [List.mem_cons, List.not_mem_nil, or_false] at h
  rcases h with rfl | rfl | rfl | rfl | rfl | rfl | rfl | rfl | rfl | rfl | rfl | rfl | rfl | rfl | rfl
  · exact sv39 G D
  · exact sv40 G D
  · exact sv41 G D
  · exact sv42 G D
  · exact sv43 G D
  · exact sv44 G D
  · exact sv45 G D
  · exact sv46 G D
  · exact sv47 G D
  · exact sv48 G D
  · exact sv49 G D
  · exact sv50 G D
  · exact sv51 G D
  · exact sv52 G D
  · exact sv53 G D, ⟨fun sm h => by
  simp only [List.mem_cons, List.not_mem_nil, or_false] at h
  rcases h with rfl | rfl | rfl | rfl | rfl | rfl
  · exact sv33 G D
  · exact sv34 G D
  · exact sv35 G D
  · exact sv36 G D
  · exact sv37 G D
  · exact sv38 G D, ⟨fun sm h => by
  simp only [List.mem_cons, List.not_mem_nil, or_false] at h
  rcases h with rfl | rfl | rfl | rfl | rfl | rfl | rfl | rfl | rfl | rfl
  · exact sv23 G D
  · exact sv24 G D
  · exact sv25 G D
  · exact sv26 G D
  · exact sv27 G D
  · exact sv28 G D
  · exact sv29 G D
  · exact sv30 G D
  · exact sv31 G D
  · exact sv32 G D, ⟨fun sm h => by
  simp only [List.mem_cons, List.not_mem_nil, or_false] at h
  rcases h with rfl | rfl | rfl | rfl | rfl | rfl | rfl | rfl | rfl | rfl | rfl | rfl | rfl | rfl | rfl
  · exact sv8 G D
  · exact sv9 G D
  · exact sv10 G D
  · exact sv11 G D
  · exact sv12 G D
  · exact sv13 G D
  · exact sv14 G D
  · exact sv15 G D
  · exact sv16 G D
  · exact sv17 G D
  · exact sv18 G D
  · exact sv19 G D
  · exact sv20 G D
  · exact sv21 G D
  · exact sv22 G D, ⟨fun sm h => by
  simp only [List.mem_cons, List.not_mem_nil, or_false] at h
  rcases h with rfl | rfl | rfl | rfl | rfl | rfl | rfl | rfl
  · exact sv0 G D
  · exact sv1 G D
  · exact sv2 G D
  · exact sv3 G D
  · exact sv4 G D
  · exact sv5 G D
  · exact sv6 G D
  · exact sv7 G D, trivial⟩⟩⟩⟩⟩
noncomputable def M54 : TT (SV × SP) := evFnD (cfgT F (fun _ => none) hpE T54) 2000 97 (patAs 0 [(false, [(.lit (.int .i64 (.lit 18)))])]) ⟨hpE, []⟩
def spc54 : PC := []
def r54_0c0 : RT := (.leaf (.int .i64 (.lit 4)))
theorem r54_0k0 : r54_0c0.ok 0 M54 spc54 = true := by kernel_rfl
def sm54 : Sm := ⟨[(false, [(.lit (.int .i64 (.lit 18)))])], false, r54_0c0⟩
theorem sv54 (G : Nat → Option Nat) (D : Hp) : SmValid Tryz.prog (GofSm G sm54) (DofSm D sm54) 97 sm54 := smValid0 (T := T54) (fuel := 2000) mixed hF (VT54 _ _) rfl r54_0k0
def T55 : List (Nat × List Sm) := [(97, [sm54]), (88, [sm39, sm40, sm41, sm42, sm43, sm44, sm45, sm46, sm47, sm48, sm49, sm50, sm51, sm52, sm53]), (17, [sm33, sm34, sm35, sm36, sm37, sm38]), (9, [sm23, sm24, sm25, sm26, sm27, sm28, sm29, sm30, sm31, sm32]), (57, [sm8, sm9, sm10, sm11, sm12, sm13, sm14, sm15, sm16, sm17, sm18, sm19, sm20, sm21, sm22]), (78, [sm0, sm1, sm2, sm3, sm4, sm5, sm6, sm7])]
theorem VT55 (G : Nat → Option Nat) (D : Hp) : AllV Tryz.prog G D T55 := ⟨fun sm h => by
  simp only [List.mem_cons, List.not_mem_nil, or_false] at h
  rcases h with rfl
  · exact sv54 G D, ⟨fun sm h => by
  simp only [List.mem_cons, List.not_mem_nil, or_false] at h
  rcases h with rfl | rfl | rfl | rfl | rfl | rfl | rfl | rfl | rfl | rfl | rfl | rfl | rfl | rfl | rfl
  · exact sv39 G D
  · exact sv40 G D
  · exact sv41 G D
  · exact sv42 G D
  · exact sv43 G D
  · exact sv44 G D
  · exact sv45 G D
  · exact sv46 G D
  · exact sv47 G D
  · exact sv48 G D
  · exact sv49 G D
  · exact sv50 G D
  · exact sv51 G D
  · exact sv52 G D
  · exact sv53 G D, ⟨fun sm h => by
  simp only [List.mem_cons, List.not_mem_nil, or_false] at h
  rcases h with rfl | rfl | rfl | rfl | rfl | rfl
  · exact sv33 G D
  · exact sv34 G D
  · exact sv35 G D
  · exact sv36 G D
  · exact sv37 G D
  · exact sv38 G D, ⟨fun sm h => by
  simp only [List.mem_cons, List.not_mem_nil, or_false] at h
  rcases h with rfl | rfl | rfl | rfl | rfl | rfl | rfl | rfl | rfl | rfl
  · exact sv23 G D
  · exact sv24 G D
  · exact sv25 G D
  · exact sv26 G D
  · exact sv27 G D
  · exact sv28 G D
  · exact sv29 G D
  · exact sv30 G D
  · exact sv31 G D
  · exact sv32 G D, ⟨fun sm h => by
  simp only [List.mem_cons, List.not_mem_nil, or_false] at h
  rcases h with rfl | rfl | rfl | rfl | rfl | rfl | rfl | rfl | rfl | rfl | rfl | rfl | rfl | rfl | rfl
  · exact sv8 G D
  · exact sv9 G D
  · exact sv10 G D
  · exact sv11 G D
  · exact sv12 G D
  · exact sv13 G D
  · exact sv14 G D
  · exact sv15 G D
  · exact sv16 G D
  · exact sv17 G D
  · exact sv18 G D
  · exact sv19 G D
  · exact sv20 G D
  · exact sv21 G D
  · exact sv22 G D, ⟨fun sm h => by
  simp only [List.mem_cons, List.not_mem_nil, or_false] at h
  rcases h with rfl | rfl | rfl | rfl | rfl | rfl | rfl | rfl
  · exact sv0 G D
  · exact sv1 G D
  · exact sv2 G D
  · exact sv3 G D
  · exact sv4 G D
  · exact sv5 G D
  · exact sv6 G D
  · exact sv7 G D, trivial⟩⟩⟩⟩⟩⟩
noncomputable def M55 : TT (SV × SP) := evFnD (cfgT F (fun _ => none) hpE T55) 2000 97 (patAs 0 [(false, [(.lit (.int .i64 (.lit 13)))])]) ⟨hpE, []⟩
def spc55 : PC := []
def r55_0c0 : RT := (.leaf (.int .i64 (.lit 4)))
theorem r55_0k0 : r55_0c0.ok 0 M55 spc55 = true := by kernel_rfl
def sm55 : Sm := ⟨[(false, [(.lit (.int .i64 (.lit 13)))])], false, r55_0c0⟩
theorem sv55 (G : Nat → Option Nat) (D : Hp) : SmValid Tryz.prog (GofSm G sm55) (DofSm D sm55) 97 sm55 := smValid0 (T := T55) (fuel := 2000) mixed hF (VT55 _ _) rfl r55_0k0
def TL : List (Nat × List Sm) := [(97, [sm54, sm55]), (88, [sm39, sm40, sm41, sm42, sm43, sm44, sm45, sm46, sm47, sm48, sm49, sm50, sm51, sm52, sm53]), (17, [sm33, sm34, sm35, sm36, sm37, sm38]), (9, [sm23, sm24, sm25, sm26, sm27, sm28, sm29, sm30, sm31, sm32]), (57, [sm8, sm9, sm10, sm11, sm12, sm13, sm14, sm15, sm16, sm17, sm18, sm19, sm20, sm21, sm22]), (78, [sm0, sm1, sm2, sm3, sm4, sm5, sm6, sm7])]
theorem VTL : AllV Tryz.prog G doorH TL := ⟨fun sm h => by
  simp only [List.mem_cons, List.not_mem_nil, or_false] at h
  rcases h with rfl | rfl
  · exact sv54 G doorH
  · exact sv55 G doorH, ⟨fun sm h => by
  simp only [List.mem_cons, List.not_mem_nil, or_false] at h
  rcases h with rfl | rfl | rfl | rfl | rfl | rfl | rfl | rfl | rfl | rfl | rfl | rfl | rfl | rfl | rfl
  · exact sv39 G doorH
  · exact sv40 G doorH
  · exact sv41 G doorH
  · exact sv42 G doorH
  · exact sv43 G doorH
  · exact sv44 G doorH
  · exact sv45 G doorH
  · exact sv46 G doorH
  · exact sv47 G doorH
  · exact sv48 G doorH
  · exact sv49 G doorH
  · exact sv50 G doorH
  · exact sv51 G doorH
  · exact sv52 G doorH
  · exact sv53 G doorH, ⟨fun sm h => by
  simp only [List.mem_cons, List.not_mem_nil, or_false] at h
  rcases h with rfl | rfl | rfl | rfl | rfl | rfl
  · exact sv33 G doorH
  · exact sv34 G doorH
  · exact sv35 G doorH
  · exact sv36 G doorH
  · exact sv37 G doorH
  · exact sv38 G doorH, ⟨fun sm h => by
  simp only [List.mem_cons, List.not_mem_nil, or_false] at h
  rcases h with rfl | rfl | rfl | rfl | rfl | rfl | rfl | rfl | rfl | rfl
  · exact sv23 G doorH
  · exact sv24 G doorH
  · exact sv25 G doorH
  · exact sv26 G doorH
  · exact sv27 G doorH
  · exact sv28 G doorH
  · exact sv29 G doorH
  · exact sv30 G doorH
  · exact sv31 G doorH
  · exact sv32 G doorH, ⟨fun sm h => by
  simp only [List.mem_cons, List.not_mem_nil, or_false] at h
  rcases h with rfl | rfl | rfl | rfl | rfl | rfl | rfl | rfl | rfl | rfl | rfl | rfl | rfl | rfl | rfl
  · exact sv8 G doorH
  · exact sv9 G doorH
  · exact sv10 G doorH
  · exact sv11 G doorH
  · exact sv12 G doorH
  · exact sv13 G doorH
  · exact sv14 G doorH
  · exact sv15 G doorH
  · exact sv16 G doorH
  · exact sv17 G doorH
  · exact sv18 G doorH
  · exact sv19 G doorH
  · exact sv20 G doorH
  · exact sv21 G doorH
  · exact sv22 G doorH, ⟨fun sm h => by
  simp only [List.mem_cons, List.not_mem_nil, or_false] at h
  rcases h with rfl | rfl | rfl | rfl | rfl | rfl | rfl | rfl
  · exact sv0 G doorH
  · exact sv1 G doorH
  · exact sv2 G doorH
  · exact sv3 G doorH
  · exact sv4 G doorH
  · exact sv5 G doorH
  · exact sv6 G doorH
  · exact sv7 G doorH, trivial⟩⟩⟩⟩⟩⟩
noncomputable def CL : Cfg := cfgT F G doorH TL
end Go.Proofs.YtaclekenckkgcaaGreatDoor.seqBells

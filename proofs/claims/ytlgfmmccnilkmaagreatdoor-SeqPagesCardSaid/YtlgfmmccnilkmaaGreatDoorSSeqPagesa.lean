/- Summaries of functions that SeqPages comes to, held against their runs. No condition. -/
import Derived.Test.YtlgfmmccnilkmaaGreatDoorFSeqPages
namespace Go.Proofs.YtlgfmmccnilkmaaGreatDoor.seqPages
open Go.Sx
set_option linter.unusedVariables false
set_option linter.unusedSimpArgs false
set_option maxRecDepth 1000000
def T0 : List (Nat × List Sm) := []
theorem VT0 (G : Nat → Option Nat) (D : Hp) : AllV Tryz.prog G D T0 := trivial
noncomputable def M0 : TT (SV × SP) := evFnD (cfgT F (fun _ => none) hpE T0) 2000 78 (patAs 0 [(false, [(.lit (.int .i64 (.lit 19)))])]) ⟨hpE, []⟩
def spc0 : PC := []
def r0_0c0 : RT := (.leaf (.int .i64 (.lit 1)))
theorem r0_0k0 : r0_0c0.ok 0 M0 spc0 = true := by kernel_rfl
def sm0 : Sm := ⟨[(false, [(.lit (.int .i64 (.lit 19)))])], false, r0_0c0⟩
theorem sv0 (G : Nat → Option Nat) (D : Hp) : SmValid Tryz.prog (GofSm G sm0) (DofSm D sm0) 78 sm0 := smValid0 (T := T0) (fuel := 2000) mixed hF (VT0 _ _) rfl r0_0k0
def T1 : List (Nat × List Sm) := []
theorem VT1 (G : Nat → Option Nat) (D : Hp) : AllV Tryz.prog G D T1 := trivial
noncomputable def M1 : TT (SV × SP) := evFnD (cfgT F (fun _ => none) hpE T1) 2000 78 (patAs 0 [(false, [(.lit (.int .i64 (.lit 18)))])]) ⟨hpE, []⟩
def spc1 : PC := []
def r1_0c0 : RT := (.leaf (.int .i64 (.lit 5)))
theorem r1_0k0 : r1_0c0.ok 0 M1 spc1 = true := by kernel_rfl
def sm1 : Sm := ⟨[(false, [(.lit (.int .i64 (.lit 18)))])], false, r1_0c0⟩
theorem sv1 (G : Nat → Option Nat) (D : Hp) : SmValid Tryz.prog (GofSm G sm1) (DofSm D sm1) 78 sm1 := smValid0 (T := T1) (fuel := 2000) mixed hF (VT1 _ _) rfl r1_0k0
def T2 : List (Nat × List Sm) := []
theorem VT2 (G : Nat → Option Nat) (D : Hp) : AllV Tryz.prog G D T2 := trivial
noncomputable def M2 : TT (SV × SP) := evFnD (cfgT F (fun _ => none) hpE T2) 2000 78 (patAs 0 [(false, [(.lit (.int .i64 (.lit 1)))])]) ⟨hpE, []⟩
def spc2 : PC := []
def r2_0c0 : RT := (.leaf (.int .i64 (.lit 1)))
theorem r2_0k0 : r2_0c0.ok 0 M2 spc2 = true := by kernel_rfl
def sm2 : Sm := ⟨[(false, [(.lit (.int .i64 (.lit 1)))])], false, r2_0c0⟩
theorem sv2 (G : Nat → Option Nat) (D : Hp) : SmValid Tryz.prog (GofSm G sm2) (DofSm D sm2) 78 sm2 := smValid0 (T := T2) (fuel := 2000) mixed hF (VT2 _ _) rfl r2_0k0
def T3 : List (Nat × List Sm) := []
theorem VT3 (G : Nat → Option Nat) (D : Hp) : AllV Tryz.prog G D T3 := trivial
noncomputable def M3 : TT (SV × SP) := evFnD (cfgT F (fun _ => none) hpE T3) 2000 78 (patAs 0 [(false, [(.lit (.int .i64 (.lit 45)))])]) ⟨hpE, []⟩
def spc3 : PC := []
def r3_0c0 : RT := (.leaf (.int .i64 (.lit 7)))
theorem r3_0k0 : r3_0c0.ok 0 M3 spc3 = true := by kernel_rfl
def sm3 : Sm := ⟨[(false, [(.lit (.int .i64 (.lit 45)))])], false, r3_0c0⟩
theorem sv3 (G : Nat → Option Nat) (D : Hp) : SmValid Tryz.prog (GofSm G sm3) (DofSm D sm3) 78 sm3 := smValid0 (T := T3) (fuel := 2000) mixed hF (VT3 _ _) rfl r3_0k0
def T4 : List (Nat × List Sm) := []
theorem VT4 (G : Nat → Option Nat) (D : Hp) : AllV Tryz.prog G D T4 := trivial
noncomputable def M4 : TT (SV × SP) := evFnD (cfgT F (fun _ => none) hpE T4) 2000 78 (patAs 0 [(false, [(.lit (.int .i64 (.lit 42)))])]) ⟨hpE, []⟩
def spc4 : PC := []
def r4_0c0 : RT := (.leaf (.int .i64 (.lit 7)))
theorem r4_0k0 : r4_0c0.ok 0 M4 spc4 = true := by kernel_rfl
def sm4 : Sm := ⟨[(false, [(.lit (.int .i64 (.lit 42)))])], false, r4_0c0⟩
theorem sv4 (G : Nat → Option Nat) (D : Hp) : SmValid Tryz.prog (GofSm G sm4) (DofSm D sm4) 78 sm4 := smValid0 (T := T4) (fuel := 2000) mixed hF (VT4 _ _) rfl r4_0k0
def T5 : List (Nat × List Sm) := []
theorem VT5 (G : Nat → Option Nat) (D : Hp) : AllV Tryz.prog G D T5 := trivial
noncomputable def M5 : TT (SV × SP) := evFnD (cfgT F (fun _ => none) hpE T5) 2000 78 (patAs 0 [(false, [(.lit (.int .i64 (.lit 13)))])]) ⟨hpE, []⟩
def spc5 : PC := []
def r5_0c0 : RT := (.leaf (.int .i64 (.lit 4)))
theorem r5_0k0 : r5_0c0.ok 0 M5 spc5 = true := by kernel_rfl
def sm5 : Sm := ⟨[(false, [(.lit (.int .i64 (.lit 13)))])], false, r5_0c0⟩
theorem sv5 (G : Nat → Option Nat) (D : Hp) : SmValid Tryz.prog (GofSm G sm5) (DofSm D sm5) 78 sm5 := smValid0 (T := T5) (fuel := 2000) mixed hF (VT5 _ _) rfl r5_0k0
def T6 : List (Nat × List Sm) := []
theorem VT6 (G : Nat → Option Nat) (D : Hp) : AllV Tryz.prog G D T6 := trivial
noncomputable def M6 : TT (SV × SP) := evFnD (cfgT F (fun _ => none) hpE T6) 2000 56 (patAs 0 [(false, [(.lit (.int .u32 (.lit 5243027)))])]) ⟨hpE, []⟩
def spc6 : PC := []
def r6_0c0 : RT := (.leaf (.tuple [(.agg [(.int .i64 (.lit 19)), (.int .i64 (.lit 1)), (.int .i64 (.lit 0)), (.int .i64 (.lit 0)), (.int .i64 (.lit 0)), (.int .u32 (.lit 5)), (.bool (.lit false)), (.bool (.lit false))]), (.bool (.lit true))]))
theorem r6_0k0 : r6_0c0.ok 0 M6 spc6 = true := by kernel_rfl
def sm6 : Sm := ⟨[(false, [(.lit (.int .u32 (.lit 5243027)))])], false, r6_0c0⟩
theorem sv6 (G : Nat → Option Nat) (D : Hp) : SmValid Tryz.prog (GofSm G sm6) (DofSm D sm6) 56 sm6 := smValid0 (T := T6) (fuel := 2000) mixed hF (VT6 _ _) rfl r6_0k0
def T7 : List (Nat × List Sm) := []
theorem VT7 (G : Nat → Option Nat) (D : Hp) : AllV Tryz.prog G D T7 := trivial
noncomputable def M7 : TT (SV × SP) := evFnD (cfgT F (fun _ => none) hpE T7) 2000 56 (patAs 0 [(false, [(.lit (.int .u32 (.lit 68165667)))])]) ⟨hpE, []⟩
def spc7 : PC := []
def r7_0c0 : RT := (.leaf (.tuple [(.agg [(.int .i64 (.lit 18)), (.int .i64 (.lit 0)), (.int .i64 (.lit 0)), (.int .i64 (.lit 1)), (.int .i64 (.lit 0)), (.int .u32 (.lit 64)), (.bool (.lit false)), (.bool (.lit false))]), (.bool (.lit true))]))
theorem r7_0k0 : r7_0c0.ok 0 M7 spc7 = true := by kernel_rfl
def sm7 : Sm := ⟨[(false, [(.lit (.int .u32 (.lit 68165667)))])], false, r7_0c0⟩
theorem sv7 (G : Nat → Option Nat) (D : Hp) : SmValid Tryz.prog (GofSm G sm7) (DofSm D sm7) 56 sm7 := smValid0 (T := T7) (fuel := 2000) mixed hF (VT7 _ _) rfl r7_0k0
def T8 : List (Nat × List Sm) := []
theorem VT8 (G : Nat → Option Nat) (D : Hp) : AllV Tryz.prog G D T8 := trivial
noncomputable def M8 : TT (SV × SP) := evFnD (cfgT F (fun _ => none) hpE T8) 2000 56 (patAs 0 [(false, [(.lit (.int .u32 (.lit 2147483831)))])]) ⟨hpE, []⟩
def spc8 : PC := []
def r8_0c0 : RT := (.leaf (.tuple [(.agg [(.int .i64 (.lit 1)), (.int .i64 (.lit 1)), (.int .i64 (.lit 0)), (.int .i64 (.lit 0)), (.int .i64 (.lit 0)), (.int .u32 (.lit 2147483648)), (.bool (.lit false)), (.bool (.lit false))]), (.bool (.lit true))]))
theorem r8_0k0 : r8_0c0.ok 0 M8 spc8 = true := by kernel_rfl
def sm8 : Sm := ⟨[(false, [(.lit (.int .u32 (.lit 2147483831)))])], false, r8_0c0⟩
theorem sv8 (G : Nat → Option Nat) (D : Hp) : SmValid Tryz.prog (GofSm G sm8) (DofSm D sm8) 56 sm8 := smValid0 (T := T8) (fuel := 2000) mixed hF (VT8 _ _) rfl r8_0k0
def T9 : List (Nat × List Sm) := []
theorem VT9 (G : Nat → Option Nat) (D : Hp) : AllV Tryz.prog G D T9 := trivial
noncomputable def M9 : TT (SV × SP) := evFnD (cfgT F (fun _ => none) hpE T9) 2000 56 (patAs 0 [(false, [(.lit (.int .u32 (.lit 2130067)))])]) ⟨hpE, []⟩
def spc9 : PC := []
def r9_0c0 : RT := (.leaf (.tuple [(.agg [(.int .i64 (.lit 19)), (.int .i64 (.lit 1)), (.int .i64 (.lit 1)), (.int .i64 (.lit 0)), (.int .i64 (.lit 0)), (.int .u32 (.lit 2)), (.bool (.lit false)), (.bool (.lit false))]), (.bool (.lit true))]))
theorem r9_0k0 : r9_0c0.ok 0 M9 spc9 = true := by kernel_rfl
def sm9 : Sm := ⟨[(false, [(.lit (.int .u32 (.lit 2130067)))])], false, r9_0c0⟩
theorem sv9 (G : Nat → Option Nat) (D : Hp) : SmValid Tryz.prog (GofSm G sm9) (DofSm D sm9) 56 sm9 := smValid0 (T := T9) (fuel := 2000) mixed hF (VT9 _ _) rfl r9_0k0
def T10 : List (Nat × List Sm) := []
theorem VT10 (G : Nat → Option Nat) (D : Hp) : AllV Tryz.prog G D T10 := trivial
noncomputable def M10 : TT (SV × SP) := evFnD (cfgT F (fun _ => none) hpE T10) 2000 56 (patAs 0 [(false, [(.lit (.int .u32 (.lit 402690163)))])]) ⟨hpE, []⟩
def spc10 : PC := []
def r10_0c0 : RT := (.leaf (.tuple [(.agg [(.int .i64 (.lit 45)), (.int .i64 (.lit 0)), (.int .i64 (.lit 1)), (.int .i64 (.lit 0)), (.int .i64 (.lit 384)), (.int .u32 (.lit 0)), (.bool (.lit false)), (.bool (.lit false))]), (.bool (.lit true))]))
theorem r10_0k0 : r10_0c0.ok 0 M10 spc10 = true := by kernel_rfl
def sm10 : Sm := ⟨[(false, [(.lit (.int .u32 (.lit 402690163)))])], false, r10_0c0⟩
theorem sv10 (G : Nat → Option Nat) (D : Hp) : SmValid Tryz.prog (GofSm G sm10) (DofSm D sm10) 56 sm10 := smValid0 (T := T10) (fuel := 2000) mixed hF (VT10 _ _) rfl r10_0k0
def T11 : List (Nat × List Sm) := []
theorem VT11 (G : Nat → Option Nat) (D : Hp) : AllV Tryz.prog G D T11 := trivial
noncomputable def M11 : TT (SV × SP) := evFnD (cfgT F (fun _ => none) hpE T11) 2000 56 (patAs 0 [(false, [(.lit (.int .u32 (.lit 67109011)))])]) ⟨hpE, []⟩
def spc11 : PC := []
def r11_0c0 : RT := (.leaf (.tuple [(.agg [(.int .i64 (.lit 19)), (.int .i64 (.lit 1)), (.int .i64 (.lit 0)), (.int .i64 (.lit 0)), (.int .i64 (.lit 0)), (.int .u32 (.lit 64)), (.bool (.lit false)), (.bool (.lit false))]), (.bool (.lit true))]))
theorem r11_0k0 : r11_0c0.ok 0 M11 spc11 = true := by kernel_rfl
def sm11 : Sm := ⟨[(false, [(.lit (.int .u32 (.lit 67109011)))])], false, r11_0c0⟩
theorem sv11 (G : Nat → Option Nat) (D : Hp) : SmValid Tryz.prog (GofSm G sm11) (DofSm D sm11) 56 sm11 := smValid0 (T := T11) (fuel := 2000) mixed hF (VT11 _ _) rfl r11_0k0
def T12 : List (Nat × List Sm) := []
theorem VT12 (G : Nat → Option Nat) (D : Hp) : AllV Tryz.prog G D T12 := trivial
noncomputable def M12 : TT (SV × SP) := evFnD (cfgT F (fun _ => none) hpE T12) 2000 56 (patAs 0 [(false, [(.lit (.int .u32 (.lit 873500787)))])]) ⟨hpE, []⟩
def spc12 : PC := []
def r12_0c0 : RT := (.leaf (.tuple [(.agg [(.int .i64 (.lit 45)), (.int .i64 (.lit 0)), (.int .i64 (.lit 1)), (.int .i64 (.lit 0)), (.int .i64 (.lit 833)), (.int .u32 (.lit 0)), (.bool (.lit false)), (.bool (.lit false))]), (.bool (.lit true))]))
theorem r12_0k0 : r12_0c0.ok 0 M12 spc12 = true := by kernel_rfl
def sm12 : Sm := ⟨[(false, [(.lit (.int .u32 (.lit 873500787)))])], false, r12_0c0⟩
theorem sv12 (G : Nat → Option Nat) (D : Hp) : SmValid Tryz.prog (GofSm G sm12) (DofSm D sm12) 56 sm12 := smValid0 (T := T12) (fuel := 2000) mixed hF (VT12 _ _) rfl r12_0k0
def T13 : List (Nat × List Sm) := []
theorem VT13 (G : Nat → Option Nat) (D : Hp) : AllV Tryz.prog G D T13 := trivial
noncomputable def M13 : TT (SV × SP) := evFnD (cfgT F (fun _ => none) hpE T13) 2000 56 (patAs 0 [(false, [(.lit (.int .u32 (.lit 807403635)))])]) ⟨hpE, []⟩
def spc13 : PC := []
def r13_0c0 : RT := (.leaf (.tuple [(.agg [(.int .i64 (.lit 42)), (.int .i64 (.lit 0)), (.int .i64 (.lit 0)), (.int .i64 (.lit 0)), (.int .i64 (.lit 0)), (.int .u32 (.lit 0)), (.bool (.lit false)), (.bool (.lit false))]), (.bool (.lit true))]))
theorem r13_0k0 : r13_0c0.ok 0 M13 spc13 = true := by kernel_rfl
def sm13 : Sm := ⟨[(false, [(.lit (.int .u32 (.lit 807403635)))])], false, r13_0c0⟩
theorem sv13 (G : Nat → Option Nat) (D : Hp) : SmValid Tryz.prog (GofSm G sm13) (DofSm D sm13) 56 sm13 := smValid0 (T := T13) (fuel := 2000) mixed hF (VT13 _ _) rfl r13_0k0
def T14 : List (Nat × List Sm) := []
theorem VT14 (G : Nat → Option Nat) (D : Hp) : AllV Tryz.prog G D T14 := trivial
noncomputable def M14 : TT (SV × SP) := evFnD (cfgT F (fun _ => none) hpE T14) 2000 56 (patAs 0 [(false, [(.lit (.int .u32 (.lit 4407)))])]) ⟨hpE, []⟩
def spc14 : PC := []
def r14_0c0 : RT := (.leaf (.tuple [(.agg [(.int .i64 (.lit 1)), (.int .i64 (.lit 2)), (.int .i64 (.lit 0)), (.int .i64 (.lit 0)), (.int .i64 (.lit 0)), (.int .u32 (.lit 4096)), (.bool (.lit false)), (.bool (.lit false))]), (.bool (.lit true))]))
theorem r14_0k0 : r14_0c0.ok 0 M14 spc14 = true := by kernel_rfl
def sm14 : Sm := ⟨[(false, [(.lit (.int .u32 (.lit 4407)))])], false, r14_0c0⟩
theorem sv14 (G : Nat → Option Nat) (D : Hp) : SmValid Tryz.prog (GofSm G sm14) (DofSm D sm14) 56 sm14 := smValid0 (T := T14) (fuel := 2000) mixed hF (VT14 _ _) rfl r14_0k0
def T15 : List (Nat × List Sm) := []
theorem VT15 (G : Nat → Option Nat) (D : Hp) : AllV Tryz.prog G D T15 := trivial
noncomputable def M15 : TT (SV × SP) := evFnD (cfgT F (fun _ => none) hpE T15) 2000 56 (patAs 0 [(false, [(.lit (.int .u32 (.lit 74115)))])]) ⟨hpE, []⟩
def spc15 : PC := []
def r15_0c0 : RT := (.leaf (.tuple [(.agg [(.int .i64 (.lit 13)), (.int .i64 (.lit 3)), (.int .i64 (.lit 2)), (.int .i64 (.lit 0)), (.int .i64 (.lit 0)), (.int .u32 (.lit 0)), (.bool (.lit false)), (.bool (.lit false))]), (.bool (.lit true))]))
theorem r15_0k0 : r15_0c0.ok 0 M15 spc15 = true := by kernel_rfl
def sm15 : Sm := ⟨[(false, [(.lit (.int .u32 (.lit 74115)))])], false, r15_0c0⟩
theorem sv15 (G : Nat → Option Nat) (D : Hp) : SmValid Tryz.prog (GofSm G sm15) (DofSm D sm15) 56 sm15 := smValid0 (T := T15) (fuel := 2000) mixed hF (VT15 _ _) rfl r15_0k0
def T16 : List (Nat × List Sm) := []
theorem VT16 (G : Nat → Option Nat) (D : Hp) : AllV Tryz.prog G D T16 := trivial
noncomputable def M16 : TT (SV × SP) := evFnD (cfgT F (fun _ => none) hpE T16) 2000 56 (patAs 0 [(false, [(.lit (.int .u32 (.lit 4268419)))])]) ⟨hpE, []⟩
def spc16 : PC := []
def r16_0c0 : RT := (.leaf (.tuple [(.agg [(.int .i64 (.lit 13)), (.int .i64 (.lit 3)), (.int .i64 (.lit 2)), (.int .i64 (.lit 0)), (.int .i64 (.lit 0)), (.int .u32 (.lit 4)), (.bool (.lit false)), (.bool (.lit false))]), (.bool (.lit true))]))
theorem r16_0k0 : r16_0c0.ok 0 M16 spc16 = true := by kernel_rfl
def sm16 : Sm := ⟨[(false, [(.lit (.int .u32 (.lit 4268419)))])], false, r16_0c0⟩
theorem sv16 (G : Nat → Option Nat) (D : Hp) : SmValid Tryz.prog (GofSm G sm16) (DofSm D sm16) 56 sm16 := smValid0 (T := T16) (fuel := 2000) mixed hF (VT16 _ _) rfl r16_0k0
def T17 : List (Nat × List Sm) := []
theorem VT17 (G : Nat → Option Nat) (D : Hp) : AllV Tryz.prog G D T17 := trivial
noncomputable def M17 : TT (SV × SP) := evFnD (cfgT F (fun _ => none) hpE T17) 2000 56 (patAs 0 [(false, [(.lit (.int .u32 (.lit 1122851)))])]) ⟨hpE, []⟩
def spc17 : PC := []
def r17_0c0 : RT := (.leaf (.tuple [(.agg [(.int .i64 (.lit 18)), (.int .i64 (.lit 0)), (.int .i64 (.lit 2)), (.int .i64 (.lit 1)), (.int .i64 (.lit 0)), (.int .u32 (.lit 4)), (.bool (.lit false)), (.bool (.lit false))]), (.bool (.lit true))]))
theorem r17_0k0 : r17_0c0.ok 0 M17 spc17 = true := by kernel_rfl
def sm17 : Sm := ⟨[(false, [(.lit (.int .u32 (.lit 1122851)))])], false, r17_0c0⟩
theorem sv17 (G : Nat → Option Nat) (D : Hp) : SmValid Tryz.prog (GofSm G sm17) (DofSm D sm17) 56 sm17 := smValid0 (T := T17) (fuel := 2000) mixed hF (VT17 _ _) rfl r17_0k0
def T18 : List (Nat × List Sm) := []
theorem VT18 (G : Nat → Option Nat) (D : Hp) : AllV Tryz.prog G D T18 := trivial
noncomputable def M18 : TT (SV × SP) := evFnD (cfgT F (fun _ => none) hpE T18) 2000 7 (patAs 0 [(false, [(.lit (.int .i64 (.lit 19)))]), (false, [(.lit (.int .i64 (.lit 1)))]), (false, [(.lit (.int .i64 (.lit 0)))]), (false, [(.lit (.int .i64 (.lit 0)))]), (false, [(.lit (.int .u32 (.lit 5)))])]) ⟨hpE, []⟩
def spc18 : PC := []
def r18_0c0 : RT := (.leaf (.int .u32 (.lit 5243027)))
theorem r18_0k0 : r18_0c0.ok 0 M18 spc18 = true := by kernel_rfl
def sm18 : Sm := ⟨[(false, [(.lit (.int .i64 (.lit 19)))]), (false, [(.lit (.int .i64 (.lit 1)))]), (false, [(.lit (.int .i64 (.lit 0)))]), (false, [(.lit (.int .i64 (.lit 0)))]), (false, [(.lit (.int .u32 (.lit 5)))])], false, r18_0c0⟩
theorem sv18 (G : Nat → Option Nat) (D : Hp) : SmValid Tryz.prog (GofSm G sm18) (DofSm D sm18) 7 sm18 := smValid0 (T := T18) (fuel := 2000) mixed hF (VT18 _ _) rfl r18_0k0
def T19 : List (Nat × List Sm) := []
theorem VT19 (G : Nat → Option Nat) (D : Hp) : AllV Tryz.prog G D T19 := trivial
noncomputable def M19 : TT (SV × SP) := evFnD (cfgT F (fun _ => none) hpE T19) 2000 7 (patAs 0 [(false, [(.lit (.int .i64 (.lit 18)))]), (false, [(.lit (.int .i64 (.lit 0)))]), (false, [(.lit (.int .i64 (.lit 0)))]), (false, [(.lit (.int .i64 (.lit 1)))]), (false, [(.lit (.int .u32 (.lit 64)))])]) ⟨hpE, []⟩
def spc19 : PC := []
def r19_0c0 : RT := (.leaf (.int .u32 (.lit 68165667)))
theorem r19_0k0 : r19_0c0.ok 0 M19 spc19 = true := by kernel_rfl
def sm19 : Sm := ⟨[(false, [(.lit (.int .i64 (.lit 18)))]), (false, [(.lit (.int .i64 (.lit 0)))]), (false, [(.lit (.int .i64 (.lit 0)))]), (false, [(.lit (.int .i64 (.lit 1)))]), (false, [(.lit (.int .u32 (.lit 64)))])], false, r19_0c0⟩
theorem sv19 (G : Nat → Option Nat) (D : Hp) : SmValid Tryz.prog (GofSm G sm19) (DofSm D sm19) 7 sm19 := smValid0 (T := T19) (fuel := 2000) mixed hF (VT19 _ _) rfl r19_0k0
end Go.Proofs.YtlgfmmccnilkmaaGreatDoor.seqPages

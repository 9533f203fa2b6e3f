/- Summaries of functions that SeqSums comes to, held against their runs. No condition. -/
import Derived.Test.YtlgfmmccnilkmaaGreatDoorFSeqSums
namespace Go.Proofs.YtlgfmmccnilkmaaGreatDoor.seqSums
open Go.Sx
set_option linter.unusedVariables false
set_option linter.unusedSimpArgs false
set_option maxRecDepth 1000000
def T0 : List (Nat × List Sm) := []
theorem VT0 (G : Nat → Option Nat) (D : Hp) : AllV Tryz.prog G D T0 := trivial
noncomputable def M0 : TT (SV × SP) := evFnD (cfgT F (fun _ => none) hpE T0) 2000 78 (patAs 0 [(false, [(.lit (.int .i64 (.lit 19)))])]) ⟨hpE, []⟩
def spc0 : PC := []
def r0_0c0 : RT := (.leaf (.int .i64 (.lit 1)))
theorem r0_0k0 : r0_0c0.ok 0 M0 spc0 = true := by kernel_rfl
def sm0 : Sm := ⟨[(false, [(.lit (.int .i64 (.lit 19)))])], false, r0_0c0⟩
theorem sv0 (G : Nat → Option Nat) (D : Hp) : SmValid Tryz.prog (GofSm G sm0) (DofSm D sm0) 78 sm0 := smValid0 (T := T0) (fuel := 2000) mixed hF (VT0 _ _) rfl r0_0k0
def T1 : List (Nat × List Sm) := []
theorem VT1 (G : Nat → Option Nat) (D : Hp) : AllV Tryz.prog G D T1 := trivial
noncomputable def M1 : TT (SV × SP) := evFnD (cfgT F (fun _ => none) hpE T1) 2000 78 (patAs 0 [(false, [(.lit (.int .i64 (.lit 18)))])]) ⟨hpE, []⟩
def spc1 : PC := []
def r1_0c0 : RT := (.leaf (.int .i64 (.lit 5)))
theorem r1_0k0 : r1_0c0.ok 0 M1 spc1 = true := by kernel_rfl
def sm1 : Sm := ⟨[(false, [(.lit (.int .i64 (.lit 18)))])], false, r1_0c0⟩
theorem sv1 (G : Nat → Option Nat) (D : Hp) : SmValid Tryz.prog (GofSm G sm1) (DofSm D sm1) 78 sm1 := smValid0 (T := T1) (fuel := 2000) mixed hF (VT1 _ _) rfl r1_0k0
def T2 : List (Nat × List Sm) := []
theorem VT2 (G : Nat → Option Nat) (D : Hp) : AllV Tryz.prog G D T2 := trivial
noncomputable def M2 : TT (SV × SP) := evFnD (cfgT F (fun _ => none) hpE T2) 2000 78 (patAs 0 [(false, [(.lit (.int .i64 (.lit 6)))])]) ⟨hpE, []⟩
def spc2 : PC := []
def r2_0c0 : RT := (.leaf (.int .i64 (.lit 3)))
theorem r2_0k0 : r2_0c0.ok 0 M2 spc2 = true := by kernel_rfl
def sm2 : Sm := ⟨[(false, [(.lit (.int .i64 (.lit 6)))])], false, r2_0c0⟩
theorem sv2 (G : Nat → Option Nat) (D : Hp) : SmValid Tryz.prog (GofSm G sm2) (DofSm D sm2) 78 sm2 := smValid0 (T := T2) (fuel := 2000) mixed hF (VT2 _ _) rfl r2_0k0
def T3 : List (Nat × List Sm) := []
theorem VT3 (G : Nat → Option Nat) (D : Hp) : AllV Tryz.prog G D T3 := trivial
noncomputable def M3 : TT (SV × SP) := evFnD (cfgT F (fun _ => none) hpE T3) 2000 56 (patAs 0 [(false, [(.lit (.int .u32 (.lit 5243027)))])]) ⟨hpE, []⟩
def spc3 : PC := []
def r3_0c0 : RT := (.leaf (.tuple [(.agg [(.int .i64 (.lit 19)), (.int .i64 (.lit 1)), (.int .i64 (.lit 0)), (.int .i64 (.lit 0)), (.int .i64 (.lit 0)), (.int .u32 (.lit 5)), (.bool (.lit false)), (.bool (.lit false))]), (.bool (.lit true))]))
theorem r3_0k0 : r3_0c0.ok 0 M3 spc3 = true := by kernel_rfl
def sm3 : Sm := ⟨[(false, [(.lit (.int .u32 (.lit 5243027)))])], false, r3_0c0⟩
theorem sv3 (G : Nat → Option Nat) (D : Hp) : SmValid Tryz.prog (GofSm G sm3) (DofSm D sm3) 56 sm3 := smValid0 (T := T3) (fuel := 2000) mixed hF (VT3 _ _) rfl r3_0k0
def T4 : List (Nat × List Sm) := []
theorem VT4 (G : Nat → Option Nat) (D : Hp) : AllV Tryz.prog G D T4 := trivial
noncomputable def M4 : TT (SV × SP) := evFnD (cfgT F (fun _ => none) hpE T4) 2000 56 (patAs 0 [(false, [(.lit (.int .u32 (.lit 68165667)))])]) ⟨hpE, []⟩
def spc4 : PC := []
def r4_0c0 : RT := (.leaf (.tuple [(.agg [(.int .i64 (.lit 18)), (.int .i64 (.lit 0)), (.int .i64 (.lit 0)), (.int .i64 (.lit 1)), (.int .i64 (.lit 0)), (.int .u32 (.lit 64)), (.bool (.lit false)), (.bool (.lit false))]), (.bool (.lit true))]))
theorem r4_0k0 : r4_0c0.ok 0 M4 spc4 = true := by kernel_rfl
def sm4 : Sm := ⟨[(false, [(.lit (.int .u32 (.lit 68165667)))])], false, r4_0c0⟩
theorem sv4 (G : Nat → Option Nat) (D : Hp) : SmValid Tryz.prog (GofSm G sm4) (DofSm D sm4) 56 sm4 := smValid0 (T := T4) (fuel := 2000) mixed hF (VT4 _ _) rfl r4_0k0
def T5 : List (Nat × List Sm) := []
theorem VT5 (G : Nat → Option Nat) (D : Hp) : AllV Tryz.prog G D T5 := trivial
noncomputable def M5 : TT (SV × SP) := evFnD (cfgT F (fun _ => none) hpE T5) 2000 56 (patAs 0 [(false, [(.lit (.int .u32 (.lit 1048723)))])]) ⟨hpE, []⟩
def spc5 : PC := []
def r5_0c0 : RT := (.leaf (.tuple [(.agg [(.int .i64 (.lit 19)), (.int .i64 (.lit 1)), (.int .i64 (.lit 0)), (.int .i64 (.lit 0)), (.int .i64 (.lit 0)), (.int .u32 (.lit 1)), (.bool (.lit false)), (.bool (.lit false))]), (.bool (.lit true))]))
theorem r5_0k0 : r5_0c0.ok 0 M5 spc5 = true := by kernel_rfl
def sm5 : Sm := ⟨[(false, [(.lit (.int .u32 (.lit 1048723)))])], false, r5_0c0⟩
theorem sv5 (G : Nat → Option Nat) (D : Hp) : SmValid Tryz.prog (GofSm G sm5) (DofSm D sm5) 56 sm5 := smValid0 (T := T5) (fuel := 2000) mixed hF (VT5 _ _) rfl r5_0k0
def T6 : List (Nat × List Sm) := []
theorem VT6 (G : Nat → Option Nat) (D : Hp) : AllV Tryz.prog G D T6 := trivial
noncomputable def M6 : TT (SV × SP) := evFnD (cfgT F (fun _ => none) hpE T6) 2000 56 (patAs 0 [(false, [(.lit (.int .u32 (.lit 1147283)))])]) ⟨hpE, []⟩
def spc6 : PC := []
def r6_0c0 : RT := (.leaf (.tuple [(.agg [(.int .i64 (.lit 19)), (.int .i64 (.lit 3)), (.int .i64 (.lit 3)), (.int .i64 (.lit 0)), (.int .i64 (.lit 0)), (.int .u32 (.lit 1)), (.bool (.lit false)), (.bool (.lit false))]), (.bool (.lit true))]))
theorem r6_0k0 : r6_0c0.ok 0 M6 spc6 = true := by kernel_rfl
def sm6 : Sm := ⟨[(false, [(.lit (.int .u32 (.lit 1147283)))])], false, r6_0c0⟩
theorem sv6 (G : Nat → Option Nat) (D : Hp) : SmValid Tryz.prog (GofSm G sm6) (DofSm D sm6) 56 sm6 := smValid0 (T := T6) (fuel := 2000) mixed hF (VT6 _ _) rfl r6_0k0
def T7 : List (Nat × List Sm) := []
theorem VT7 (G : Nat → Option Nat) (D : Hp) : AllV Tryz.prog G D T7 := trivial
noncomputable def M7 : TT (SV × SP) := evFnD (cfgT F (fun _ => none) hpE T7) 2000 56 (patAs 0 [(false, [(.lit (.int .u32 (.lit 4293951635)))])]) ⟨hpE, []⟩
def spc7 : PC := []
def r7_0c0 : RT := (.leaf (.tuple [(.agg [(.int .i64 (.lit 19)), (.int .i64 (.lit 1)), (.int .i64 (.lit 1)), (.int .i64 (.lit 0)), (.int .i64 (.lit 0)), (.int .u32 (.lit 4294967295)), (.bool (.lit false)), (.bool (.lit false))]), (.bool (.lit true))]))
theorem r7_0k0 : r7_0c0.ok 0 M7 spc7 = true := by kernel_rfl
def sm7 : Sm := ⟨[(false, [(.lit (.int .u32 (.lit 4293951635)))])], false, r7_0c0⟩
theorem sv7 (G : Nat → Option Nat) (D : Hp) : SmValid Tryz.prog (GofSm G sm7) (DofSm D sm7) 56 sm7 := smValid0 (T := T7) (fuel := 2000) mixed hF (VT7 _ _) rfl r7_0k0
def T8 : List (Nat × List Sm) := []
theorem VT8 (G : Nat → Option Nat) (D : Hp) : AllV Tryz.prog G D T8 := trivial
noncomputable def M8 : TT (SV × SP) := evFnD (cfgT F (fun _ => none) hpE T8) 2000 56 (patAs 0 [(false, [(.lit (.int .u32 (.lit 4261453027)))])]) ⟨hpE, []⟩
def spc8 : PC := []
def r8_0c0 : RT := (.leaf (.tuple [(.agg [(.int .i64 (.lit 6)), (.int .i64 (.lit 0)), (.int .i64 (.lit 1)), (.int .i64 (.lit 0)), (.int .i64 (.lit 0)), (.int .u32 (.lit 4294967288)), (.bool (.lit false)), (.bool (.lit false))]), (.bool (.lit true))]))
theorem r8_0k0 : r8_0c0.ok 0 M8 spc8 = true := by kernel_rfl
def sm8 : Sm := ⟨[(false, [(.lit (.int .u32 (.lit 4261453027)))])], false, r8_0c0⟩
theorem sv8 (G : Nat → Option Nat) (D : Hp) : SmValid Tryz.prog (GofSm G sm8) (DofSm D sm8) 56 sm8 := smValid0 (T := T8) (fuel := 2000) mixed hF (VT8 _ _) rfl r8_0k0
def T9 : List (Nat × List Sm) := []
theorem VT9 (G : Nat → Option Nat) (D : Hp) : AllV Tryz.prog G D T9 := trivial
noncomputable def M9 : TT (SV × SP) := evFnD (cfgT F (fun _ => none) hpE T9) 2000 56 (patAs 0 [(false, [(.lit (.int .u32 (.lit 103817251)))])]) ⟨hpE, []⟩
def spc9 : PC := []
def r9_0c0 : RT := (.leaf (.tuple [(.agg [(.int .i64 (.lit 18)), (.int .i64 (.lit 0)), (.int .i64 (.lit 0)), (.int .i64 (.lit 3)), (.int .i64 (.lit 0)), (.int .u32 (.lit 96)), (.bool (.lit false)), (.bool (.lit false))]), (.bool (.lit true))]))
theorem r9_0k0 : r9_0c0.ok 0 M9 spc9 = true := by kernel_rfl
def sm9 : Sm := ⟨[(false, [(.lit (.int .u32 (.lit 103817251)))])], false, r9_0c0⟩
theorem sv9 (G : Nat → Option Nat) (D : Hp) : SmValid Tryz.prog (GofSm G sm9) (DofSm D sm9) 56 sm9 := smValid0 (T := T9) (fuel := 2000) mixed hF (VT9 _ _) rfl r9_0k0
def T10 : List (Nat × List Sm) := []
theorem VT10 (G : Nat → Option Nat) (D : Hp) : AllV Tryz.prog G D T10 := trivial
noncomputable def M10 : TT (SV × SP) := evFnD (cfgT F (fun _ => none) hpE T10) 2000 56 (patAs 0 [(false, [(.lit (.int .u32 (.lit 2097299)))])]) ⟨hpE, []⟩
def spc10 : PC := []
def r10_0c0 : RT := (.leaf (.tuple [(.agg [(.int .i64 (.lit 19)), (.int .i64 (.lit 1)), (.int .i64 (.lit 0)), (.int .i64 (.lit 0)), (.int .i64 (.lit 0)), (.int .u32 (.lit 2)), (.bool (.lit false)), (.bool (.lit false))]), (.bool (.lit true))]))
theorem r10_0k0 : r10_0c0.ok 0 M10 spc10 = true := by kernel_rfl
def sm10 : Sm := ⟨[(false, [(.lit (.int .u32 (.lit 2097299)))])], false, r10_0c0⟩
theorem sv10 (G : Nat → Option Nat) (D : Hp) : SmValid Tryz.prog (GofSm G sm10) (DofSm D sm10) 56 sm10 := smValid0 (T := T10) (fuel := 2000) mixed hF (VT10 _ _) rfl r10_0k0
def T11 : List (Nat × List Sm) := []
theorem VT11 (G : Nat → Option Nat) (D : Hp) : AllV Tryz.prog G D T11 := trivial
noncomputable def M11 : TT (SV × SP) := evFnD (cfgT F (fun _ => none) hpE T11) 2000 56 (patAs 0 [(false, [(.lit (.int .u32 (.lit 3145875)))])]) ⟨hpE, []⟩
def spc11 : PC := []
def r11_0c0 : RT := (.leaf (.tuple [(.agg [(.int .i64 (.lit 19)), (.int .i64 (.lit 1)), (.int .i64 (.lit 0)), (.int .i64 (.lit 0)), (.int .i64 (.lit 0)), (.int .u32 (.lit 3)), (.bool (.lit false)), (.bool (.lit false))]), (.bool (.lit true))]))
theorem r11_0k0 : r11_0c0.ok 0 M11 spc11 = true := by kernel_rfl
def sm11 : Sm := ⟨[(false, [(.lit (.int .u32 (.lit 3145875)))])], false, r11_0c0⟩
theorem sv11 (G : Nat → Option Nat) (D : Hp) : SmValid Tryz.prog (GofSm G sm11) (DofSm D sm11) 56 sm11 := smValid0 (T := T11) (fuel := 2000) mixed hF (VT11 _ _) rfl r11_0k0
def T12 : List (Nat × List Sm) := []
theorem VT12 (G : Nat → Option Nat) (D : Hp) : AllV Tryz.prog G D T12 := trivial
noncomputable def M12 : TT (SV × SP) := evFnD (cfgT F (fun _ => none) hpE T12) 2000 56 (patAs 0 [(false, [(.lit (.int .u32 (.lit 4194451)))])]) ⟨hpE, []⟩
def spc12 : PC := []
def r12_0c0 : RT := (.leaf (.tuple [(.agg [(.int .i64 (.lit 19)), (.int .i64 (.lit 1)), (.int .i64 (.lit 0)), (.int .i64 (.lit 0)), (.int .i64 (.lit 0)), (.int .u32 (.lit 4)), (.bool (.lit false)), (.bool (.lit false))]), (.bool (.lit true))]))
theorem r12_0k0 : r12_0c0.ok 0 M12 spc12 = true := by kernel_rfl
def sm12 : Sm := ⟨[(false, [(.lit (.int .u32 (.lit 4194451)))])], false, r12_0c0⟩
theorem sv12 (G : Nat → Option Nat) (D : Hp) : SmValid Tryz.prog (GofSm G sm12) (DofSm D sm12) 56 sm12 := smValid0 (T := T12) (fuel := 2000) mixed hF (VT12 _ _) rfl r12_0k0
def T13 : List (Nat × List Sm) := []
theorem VT13 (G : Nat → Option Nat) (D : Hp) : AllV Tryz.prog G D T13 := trivial
noncomputable def M13 : TT (SV × SP) := evFnD (cfgT F (fun _ => none) hpE T13) 2000 56 (patAs 0 [(false, [(.lit (.int .u32 (.lit 6291603)))])]) ⟨hpE, []⟩
def spc13 : PC := []
def r13_0c0 : RT := (.leaf (.tuple [(.agg [(.int .i64 (.lit 19)), (.int .i64 (.lit 1)), (.int .i64 (.lit 0)), (.int .i64 (.lit 0)), (.int .i64 (.lit 0)), (.int .u32 (.lit 6)), (.bool (.lit false)), (.bool (.lit false))]), (.bool (.lit true))]))
theorem r13_0k0 : r13_0c0.ok 0 M13 spc13 = true := by kernel_rfl
def sm13 : Sm := ⟨[(false, [(.lit (.int .u32 (.lit 6291603)))])], false, r13_0c0⟩
theorem sv13 (G : Nat → Option Nat) (D : Hp) : SmValid Tryz.prog (GofSm G sm13) (DofSm D sm13) 56 sm13 := smValid0 (T := T13) (fuel := 2000) mixed hF (VT13 _ _) rfl r13_0k0
def T14 : List (Nat × List Sm) := []
theorem VT14 (G : Nat → Option Nat) (D : Hp) : AllV Tryz.prog G D T14 := trivial
noncomputable def M14 : TT (SV × SP) := evFnD (cfgT F (fun _ => none) hpE T14) 2000 56 (patAs 0 [(false, [(.lit (.int .u32 (.lit 7340179)))])]) ⟨hpE, []⟩
def spc14 : PC := []
def r14_0c0 : RT := (.leaf (.tuple [(.agg [(.int .i64 (.lit 19)), (.int .i64 (.lit 1)), (.int .i64 (.lit 0)), (.int .i64 (.lit 0)), (.int .i64 (.lit 0)), (.int .u32 (.lit 7)), (.bool (.lit false)), (.bool (.lit false))]), (.bool (.lit true))]))
theorem r14_0k0 : r14_0c0.ok 0 M14 spc14 = true := by kernel_rfl
def sm14 : Sm := ⟨[(false, [(.lit (.int .u32 (.lit 7340179)))])], false, r14_0c0⟩
theorem sv14 (G : Nat → Option Nat) (D : Hp) : SmValid Tryz.prog (GofSm G sm14) (DofSm D sm14) 56 sm14 := smValid0 (T := T14) (fuel := 2000) mixed hF (VT14 _ _) rfl r14_0k0
def T15 : List (Nat × List Sm) := []
theorem VT15 (G : Nat → Option Nat) (D : Hp) : AllV Tryz.prog G D T15 := trivial
noncomputable def M15 : TT (SV × SP) := evFnD (cfgT F (fun _ => none) hpE T15) 2000 56 (patAs 0 [(false, [(.lit (.int .u32 (.lit 8388755)))])]) ⟨hpE, []⟩
def spc15 : PC := []
def r15_0c0 : RT := (.leaf (.tuple [(.agg [(.int .i64 (.lit 19)), (.int .i64 (.lit 1)), (.int .i64 (.lit 0)), (.int .i64 (.lit 0)), (.int .i64 (.lit 0)), (.int .u32 (.lit 8)), (.bool (.lit false)), (.bool (.lit false))]), (.bool (.lit true))]))
theorem r15_0k0 : r15_0c0.ok 0 M15 spc15 = true := by kernel_rfl
def sm15 : Sm := ⟨[(false, [(.lit (.int .u32 (.lit 8388755)))])], false, r15_0c0⟩
theorem sv15 (G : Nat → Option Nat) (D : Hp) : SmValid Tryz.prog (GofSm G sm15) (DofSm D sm15) 56 sm15 := smValid0 (T := T15) (fuel := 2000) mixed hF (VT15 _ _) rfl r15_0k0
def T16 : List (Nat × List Sm) := []
theorem VT16 (G : Nat → Option Nat) (D : Hp) : AllV Tryz.prog G D T16 := trivial
noncomputable def M16 : TT (SV × SP) := evFnD (cfgT F (fun _ => none) hpE T16) 2000 56 (patAs 0 [(false, [(.lit (.int .u32 (.lit 9437331)))])]) ⟨hpE, []⟩
def spc16 : PC := []
def r16_0c0 : RT := (.leaf (.tuple [(.agg [(.int .i64 (.lit 19)), (.int .i64 (.lit 1)), (.int .i64 (.lit 0)), (.int .i64 (.lit 0)), (.int .i64 (.lit 0)), (.int .u32 (.lit 9)), (.bool (.lit false)), (.bool (.lit false))]), (.bool (.lit true))]))
theorem r16_0k0 : r16_0c0.ok 0 M16 spc16 = true := by kernel_rfl
def sm16 : Sm := ⟨[(false, [(.lit (.int .u32 (.lit 9437331)))])], false, r16_0c0⟩
theorem sv16 (G : Nat → Option Nat) (D : Hp) : SmValid Tryz.prog (GofSm G sm16) (DofSm D sm16) 56 sm16 := smValid0 (T := T16) (fuel := 2000) mixed hF (VT16 _ _) rfl r16_0k0
def T17 : List (Nat × List Sm) := []
theorem VT17 (G : Nat → Option Nat) (D : Hp) : AllV Tryz.prog G D T17 := trivial
noncomputable def M17 : TT (SV × SP) := evFnD (cfgT F (fun _ => none) hpE T17) 2000 56 (patAs 0 [(false, [(.lit (.int .u32 (.lit 10485907)))])]) ⟨hpE, []⟩
def spc17 : PC := []
def r17_0c0 : RT := (.leaf (.tuple [(.agg [(.int .i64 (.lit 19)), (.int .i64 (.lit 1)), (.int .i64 (.lit 0)), (.int .i64 (.lit 0)), (.int .i64 (.lit 0)), (.int .u32 (.lit 10)), (.bool (.lit false)), (.bool (.lit false))]), (.bool (.lit true))]))
theorem r17_0k0 : r17_0c0.ok 0 M17 spc17 = true := by kernel_rfl
def sm17 : Sm := ⟨[(false, [(.lit (.int .u32 (.lit 10485907)))])], false, r17_0c0⟩
theorem sv17 (G : Nat → Option Nat) (D : Hp) : SmValid Tryz.prog (GofSm G sm17) (DofSm D sm17) 56 sm17 := smValid0 (T := T17) (fuel := 2000) mixed hF (VT17 _ _) rfl r17_0k0
def T18 : List (Nat × List Sm) := []
theorem VT18 (G : Nat → Option Nat) (D : Hp) : AllV Tryz.prog G D T18 := trivial
noncomputable def M18 : TT (SV × SP) := evFnD (cfgT F (fun _ => none) hpE T18) 2000 56 (patAs 0 [(false, [(.lit (.int .u32 (.lit 11534483)))])]) ⟨hpE, []⟩
def spc18 : PC := []
def r18_0c0 : RT := (.leaf (.tuple [(.agg [(.int .i64 (.lit 19)), (.int .i64 (.lit 1)), (.int .i64 (.lit 0)), (.int .i64 (.lit 0)), (.int .i64 (.lit 0)), (.int .u32 (.lit 11)), (.bool (.lit false)), (.bool (.lit false))]), (.bool (.lit true))]))
theorem r18_0k0 : r18_0c0.ok 0 M18 spc18 = true := by kernel_rfl
def sm18 : Sm := ⟨[(false, [(.lit (.int .u32 (.lit 11534483)))])], false, r18_0c0⟩
theorem sv18 (G : Nat → Option Nat) (D : Hp) : SmValid Tryz.prog (GofSm G sm18) (DofSm D sm18) 56 sm18 := smValid0 (T := T18) (fuel := 2000) mixed hF (VT18 _ _) rfl r18_0k0
def T19 : List (Nat × List Sm) := []
theorem VT19 (G : Nat → Option Nat) (D : Hp) : AllV Tryz.prog G D T19 := trivial
noncomputable def M19 : TT (SV × SP) := evFnD (cfgT F (fun _ => none) hpE T19) 2000 56 (patAs 0 [(false, [(.lit (.int .u32 (.lit 12583059)))])]) ⟨hpE, []⟩
def spc19 : PC := []
def r19_0c0 : RT := (.leaf (.tuple [(.agg [(.int .i64 (.lit 19)), (.int .i64 (.lit 1)), (.int .i64 (.lit 0)), (.int .i64 (.lit 0)), (.int .i64 (.lit 0)), (.int .u32 (.lit 12)), (.bool (.lit false)), (.bool (.lit false))]), (.bool (.lit true))]))
theorem r19_0k0 : r19_0c0.ok 0 M19 spc19 = true := by kernel_rfl
def sm19 : Sm := ⟨[(false, [(.lit (.int .u32 (.lit 12583059)))])], false, r19_0c0⟩
theorem sv19 (G : Nat → Option Nat) (D : Hp) : SmValid Tryz.prog (GofSm G sm19) (DofSm D sm19) 56 sm19 := smValid0 (T := T19) (fuel := 2000) mixed hF (VT19 _ _) rfl r19_0k0
def T20 : List (Nat × List Sm) := []
theorem VT20 (G : Nat → Option Nat) (D : Hp) : AllV Tryz.prog G D T20 := trivial
noncomputable def M20 : TT (SV × SP) := evFnD (cfgT F (fun _ => none) hpE T20) 2000 56 (patAs 0 [(false, [(.lit (.int .u32 (.lit 13631635)))])]) ⟨hpE, []⟩
def spc20 : PC := []
def r20_0c0 : RT := (.leaf (.tuple [(.agg [(.int .i64 (.lit 19)), (.int .i64 (.lit 1)), (.int .i64 (.lit 0)), (.int .i64 (.lit 0)), (.int .i64 (.lit 0)), (.int .u32 (.lit 13)), (.bool (.lit false)), (.bool (.lit false))]), (.bool (.lit true))]))
theorem r20_0k0 : r20_0c0.ok 0 M20 spc20 = true := by kernel_rfl
def sm20 : Sm := ⟨[(false, [(.lit (.int .u32 (.lit 13631635)))])], false, r20_0c0⟩
theorem sv20 (G : Nat → Option Nat) (D : Hp) : SmValid Tryz.prog (GofSm G sm20) (DofSm D sm20) 56 sm20 := smValid0 (T := T20) (fuel := 2000) mixed hF (VT20 _ _) rfl r20_0k0
def T21 : List (Nat × List Sm) := []
theorem VT21 (G : Nat → Option Nat) (D : Hp) : AllV Tryz.prog G D T21 := trivial
noncomputable def M21 : TT (SV × SP) := evFnD (cfgT F (fun _ => none) hpE T21) 2000 56 (patAs 0 [(false, [(.lit (.int .u32 (.lit 14680211)))])]) ⟨hpE, []⟩
def spc21 : PC := []
def r21_0c0 : RT := (.leaf (.tuple [(.agg [(.int .i64 (.lit 19)), (.int .i64 (.lit 1)), (.int .i64 (.lit 0)), (.int .i64 (.lit 0)), (.int .i64 (.lit 0)), (.int .u32 (.lit 14)), (.bool (.lit false)), (.bool (.lit false))]), (.bool (.lit true))]))
theorem r21_0k0 : r21_0c0.ok 0 M21 spc21 = true := by kernel_rfl
def sm21 : Sm := ⟨[(false, [(.lit (.int .u32 (.lit 14680211)))])], false, r21_0c0⟩
theorem sv21 (G : Nat → Option Nat) (D : Hp) : SmValid Tryz.prog (GofSm G sm21) (DofSm D sm21) 56 sm21 := smValid0 (T := T21) (fuel := 2000) mixed hF (VT21 _ _) rfl r21_0k0
def T22 : List (Nat × List Sm) := []
theorem VT22 (G : Nat → Option Nat) (D : Hp) : AllV Tryz.prog G D T22 := trivial
noncomputable def M22 : TT (SV × SP) := evFnD (cfgT F (fun _ => none) hpE T22) 2000 56 (patAs 0 [(false, [(.lit (.int .u32 (.lit 15728787)))])]) ⟨hpE, []⟩
def spc22 : PC := []
def r22_0c0 : RT := (.leaf (.tuple [(.agg [(.int .i64 (.lit 19)), (.int .i64 (.lit 1)), (.int .i64 (.lit 0)), (.int .i64 (.lit 0)), (.int .i64 (.lit 0)), (.int .u32 (.lit 15)), (.bool (.lit false)), (.bool (.lit false))]), (.bool (.lit true))]))
theorem r22_0k0 : r22_0c0.ok 0 M22 spc22 = true := by kernel_rfl
def sm22 : Sm := ⟨[(false, [(.lit (.int .u32 (.lit 15728787)))])], false, r22_0c0⟩
theorem sv22 (G : Nat → Option Nat) (D : Hp) : SmValid Tryz.prog (GofSm G sm22) (DofSm D sm22) 56 sm22 := smValid0 (T := T22) (fuel := 2000) mixed hF (VT22 _ _) rfl r22_0k0
def T23 : List (Nat × List Sm) := []
theorem VT23 (G : Nat → Option Nat) (D : Hp) : AllV Tryz.prog G D T23 := trivial
noncomputable def M23 : TT (SV × SP) := evFnD (cfgT F (fun _ => none) hpE T23) 2000 56 (patAs 0 [(false, [(.lit (.int .u32 (.lit 16777363)))])]) ⟨hpE, []⟩
def spc23 : PC := []
def r23_0c0 : RT := (.leaf (.tuple [(.agg [(.int .i64 (.lit 19)), (.int .i64 (.lit 1)), (.int .i64 (.lit 0)), (.int .i64 (.lit 0)), (.int .i64 (.lit 0)), (.int .u32 (.lit 16)), (.bool (.lit false)), (.bool (.lit false))]), (.bool (.lit true))]))
theorem r23_0k0 : r23_0c0.ok 0 M23 spc23 = true := by kernel_rfl
def sm23 : Sm := ⟨[(false, [(.lit (.int .u32 (.lit 16777363)))])], false, r23_0c0⟩
theorem sv23 (G : Nat → Option Nat) (D : Hp) : SmValid Tryz.prog (GofSm G sm23) (DofSm D sm23) 56 sm23 := smValid0 (T := T23) (fuel := 2000) mixed hF (VT23 _ _) rfl r23_0k0
def T24 : List (Nat × List Sm) := []
theorem VT24 (G : Nat → Option Nat) (D : Hp) : AllV Tryz.prog G D T24 := trivial
noncomputable def M24 : TT (SV × SP) := evFnD (cfgT F (fun _ => none) hpE T24) 2000 56 (patAs 0 [(false, [(.lit (.int .u32 (.lit 17825939)))])]) ⟨hpE, []⟩
def spc24 : PC := []
def r24_0c0 : RT := (.leaf (.tuple [(.agg [(.int .i64 (.lit 19)), (.int .i64 (.lit 1)), (.int .i64 (.lit 0)), (.int .i64 (.lit 0)), (.int .i64 (.lit 0)), (.int .u32 (.lit 17)), (.bool (.lit false)), (.bool (.lit false))]), (.bool (.lit true))]))
theorem r24_0k0 : r24_0c0.ok 0 M24 spc24 = true := by kernel_rfl
def sm24 : Sm := ⟨[(false, [(.lit (.int .u32 (.lit 17825939)))])], false, r24_0c0⟩
theorem sv24 (G : Nat → Option Nat) (D : Hp) : SmValid Tryz.prog (GofSm G sm24) (DofSm D sm24) 56 sm24 := smValid0 (T := T24) (fuel := 2000) mixed hF (VT24 _ _) rfl r24_0k0
def T25 : List (Nat × List Sm) := []
theorem VT25 (G : Nat → Option Nat) (D : Hp) : AllV Tryz.prog G D T25 := trivial
noncomputable def M25 : TT (SV × SP) := evFnD (cfgT F (fun _ => none) hpE T25) 2000 56 (patAs 0 [(false, [(.lit (.int .u32 (.lit 18874515)))])]) ⟨hpE, []⟩
def spc25 : PC := []
def r25_0c0 : RT := (.leaf (.tuple [(.agg [(.int .i64 (.lit 19)), (.int .i64 (.lit 1)), (.int .i64 (.lit 0)), (.int .i64 (.lit 0)), (.int .i64 (.lit 0)), (.int .u32 (.lit 18)), (.bool (.lit false)), (.bool (.lit false))]), (.bool (.lit true))]))
theorem r25_0k0 : r25_0c0.ok 0 M25 spc25 = true := by kernel_rfl
def sm25 : Sm := ⟨[(false, [(.lit (.int .u32 (.lit 18874515)))])], false, r25_0c0⟩
theorem sv25 (G : Nat → Option Nat) (D : Hp) : SmValid Tryz.prog (GofSm G sm25) (DofSm D sm25) 56 sm25 := smValid0 (T := T25) (fuel := 2000) mixed hF (VT25 _ _) rfl r25_0k0
def T26 : List (Nat × List Sm) := []
theorem VT26 (G : Nat → Option Nat) (D : Hp) : AllV Tryz.prog G D T26 := trivial
noncomputable def M26 : TT (SV × SP) := evFnD (cfgT F (fun _ => none) hpE T26) 2000 56 (patAs 0 [(false, [(.lit (.int .u32 (.lit 19923091)))])]) ⟨hpE, []⟩
def spc26 : PC := []
def r26_0c0 : RT := (.leaf (.tuple [(.agg [(.int .i64 (.lit 19)), (.int .i64 (.lit 1)), (.int .i64 (.lit 0)), (.int .i64 (.lit 0)), (.int .i64 (.lit 0)), (.int .u32 (.lit 19)), (.bool (.lit false)), (.bool (.lit false))]), (.bool (.lit true))]))
theorem r26_0k0 : r26_0c0.ok 0 M26 spc26 = true := by kernel_rfl
def sm26 : Sm := ⟨[(false, [(.lit (.int .u32 (.lit 19923091)))])], false, r26_0c0⟩
theorem sv26 (G : Nat → Option Nat) (D : Hp) : SmValid Tryz.prog (GofSm G sm26) (DofSm D sm26) 56 sm26 := smValid0 (T := T26) (fuel := 2000) mixed hF (VT26 _ _) rfl r26_0k0
def T27 : List (Nat × List Sm) := []
theorem VT27 (G : Nat → Option Nat) (D : Hp) : AllV Tryz.prog G D T27 := trivial
noncomputable def M27 : TT (SV × SP) := evFnD (cfgT F (fun _ => none) hpE T27) 2000 56 (patAs 0 [(false, [(.lit (.int .u32 (.lit 20971667)))])]) ⟨hpE, []⟩
def spc27 : PC := []
def r27_0c0 : RT := (.leaf (.tuple [(.agg [(.int .i64 (.lit 19)), (.int .i64 (.lit 1)), (.int .i64 (.lit 0)), (.int .i64 (.lit 0)), (.int .i64 (.lit 0)), (.int .u32 (.lit 20)), (.bool (.lit false)), (.bool (.lit false))]), (.bool (.lit true))]))
theorem r27_0k0 : r27_0c0.ok 0 M27 spc27 = true := by kernel_rfl
def sm27 : Sm := ⟨[(false, [(.lit (.int .u32 (.lit 20971667)))])], false, r27_0c0⟩
theorem sv27 (G : Nat → Option Nat) (D : Hp) : SmValid Tryz.prog (GofSm G sm27) (DofSm D sm27) 56 sm27 := smValid0 (T := T27) (fuel := 2000) mixed hF (VT27 _ _) rfl r27_0k0
def T28 : List (Nat × List Sm) := []
theorem VT28 (G : Nat → Option Nat) (D : Hp) : AllV Tryz.prog G D T28 := trivial
noncomputable def M28 : TT (SV × SP) := evFnD (cfgT F (fun _ => none) hpE T28) 2000 56 (patAs 0 [(false, [(.lit (.int .u32 (.lit 22020243)))])]) ⟨hpE, []⟩
def spc28 : PC := []
def r28_0c0 : RT := (.leaf (.tuple [(.agg [(.int .i64 (.lit 19)), (.int .i64 (.lit 1)), (.int .i64 (.lit 0)), (.int .i64 (.lit 0)), (.int .i64 (.lit 0)), (.int .u32 (.lit 21)), (.bool (.lit false)), (.bool (.lit false))]), (.bool (.lit true))]))
theorem r28_0k0 : r28_0c0.ok 0 M28 spc28 = true := by kernel_rfl
def sm28 : Sm := ⟨[(false, [(.lit (.int .u32 (.lit 22020243)))])], false, r28_0c0⟩
theorem sv28 (G : Nat → Option Nat) (D : Hp) : SmValid Tryz.prog (GofSm G sm28) (DofSm D sm28) 56 sm28 := smValid0 (T := T28) (fuel := 2000) mixed hF (VT28 _ _) rfl r28_0k0
def T29 : List (Nat × List Sm) := []
theorem VT29 (G : Nat → Option Nat) (D : Hp) : AllV Tryz.prog G D T29 := trivial
noncomputable def M29 : TT (SV × SP) := evFnD (cfgT F (fun _ => none) hpE T29) 2000 56 (patAs 0 [(false, [(.lit (.int .u32 (.lit 23068819)))])]) ⟨hpE, []⟩
def spc29 : PC := []
def r29_0c0 : RT := (.leaf (.tuple [(.agg [(.int .i64 (.lit 19)), (.int .i64 (.lit 1)), (.int .i64 (.lit 0)), (.int .i64 (.lit 0)), (.int .i64 (.lit 0)), (.int .u32 (.lit 22)), (.bool (.lit false)), (.bool (.lit false))]), (.bool (.lit true))]))
theorem r29_0k0 : r29_0c0.ok 0 M29 spc29 = true := by kernel_rfl
def sm29 : Sm := ⟨[(false, [(.lit (.int .u32 (.lit 23068819)))])], false, r29_0c0⟩
theorem sv29 (G : Nat → Option Nat) (D : Hp) : SmValid Tryz.prog (GofSm G sm29) (DofSm D sm29) 56 sm29 := smValid0 (T := T29) (fuel := 2000) mixed hF (VT29 _ _) rfl r29_0k0
def T30 : List (Nat × List Sm) := []
theorem VT30 (G : Nat → Option Nat) (D : Hp) : AllV Tryz.prog G D T30 := trivial
noncomputable def M30 : TT (SV × SP) := evFnD (cfgT F (fun _ => none) hpE T30) 2000 56 (patAs 0 [(false, [(.lit (.int .u32 (.lit 24117395)))])]) ⟨hpE, []⟩
def spc30 : PC := []
def r30_0c0 : RT := (.leaf (.tuple [(.agg [(.int .i64 (.lit 19)), (.int .i64 (.lit 1)), (.int .i64 (.lit 0)), (.int .i64 (.lit 0)), (.int .i64 (.lit 0)), (.int .u32 (.lit 23)), (.bool (.lit false)), (.bool (.lit false))]), (.bool (.lit true))]))
theorem r30_0k0 : r30_0c0.ok 0 M30 spc30 = true := by kernel_rfl
def sm30 : Sm := ⟨[(false, [(.lit (.int .u32 (.lit 24117395)))])], false, r30_0c0⟩
theorem sv30 (G : Nat → Option Nat) (D : Hp) : SmValid Tryz.prog (GofSm G sm30) (DofSm D sm30) 56 sm30 := smValid0 (T := T30) (fuel := 2000) mixed hF (VT30 _ _) rfl r30_0k0
def T31 : List (Nat × List Sm) := []
theorem VT31 (G : Nat → Option Nat) (D : Hp) : AllV Tryz.prog G D T31 := trivial
noncomputable def M31 : TT (SV × SP) := evFnD (cfgT F (fun _ => none) hpE T31) 2000 56 (patAs 0 [(false, [(.lit (.int .u32 (.lit 25165971)))])]) ⟨hpE, []⟩
def spc31 : PC := []
def r31_0c0 : RT := (.leaf (.tuple [(.agg [(.int .i64 (.lit 19)), (.int .i64 (.lit 1)), (.int .i64 (.lit 0)), (.int .i64 (.lit 0)), (.int .i64 (.lit 0)), (.int .u32 (.lit 24)), (.bool (.lit false)), (.bool (.lit false))]), (.bool (.lit true))]))
theorem r31_0k0 : r31_0c0.ok 0 M31 spc31 = true := by kernel_rfl
def sm31 : Sm := ⟨[(false, [(.lit (.int .u32 (.lit 25165971)))])], false, r31_0c0⟩
theorem sv31 (G : Nat → Option Nat) (D : Hp) : SmValid Tryz.prog (GofSm G sm31) (DofSm D sm31) 56 sm31 := smValid0 (T := T31) (fuel := 2000) mixed hF (VT31 _ _) rfl r31_0k0
def T32 : List (Nat × List Sm) := []
theorem VT32 (G : Nat → Option Nat) (D : Hp) : AllV Tryz.prog G D T32 := trivial
noncomputable def M32 : TT (SV × SP) := evFnD (cfgT F (fun _ => none) hpE T32) 2000 56 (patAs 0 [(false, [(.lit (.int .u32 (.lit 26214547)))])]) ⟨hpE, []⟩
def spc32 : PC := []
def r32_0c0 : RT := (.leaf (.tuple [(.agg [(.int .i64 (.lit 19)), (.int .i64 (.lit 1)), (.int .i64 (.lit 0)), (.int .i64 (.lit 0)), (.int .i64 (.lit 0)), (.int .u32 (.lit 25)), (.bool (.lit false)), (.bool (.lit false))]), (.bool (.lit true))]))
theorem r32_0k0 : r32_0c0.ok 0 M32 spc32 = true := by kernel_rfl
def sm32 : Sm := ⟨[(false, [(.lit (.int .u32 (.lit 26214547)))])], false, r32_0c0⟩
theorem sv32 (G : Nat → Option Nat) (D : Hp) : SmValid Tryz.prog (GofSm G sm32) (DofSm D sm32) 56 sm32 := smValid0 (T := T32) (fuel := 2000) mixed hF (VT32 _ _) rfl r32_0k0
def T33 : List (Nat × List Sm) := []
theorem VT33 (G : Nat → Option Nat) (D : Hp) : AllV Tryz.prog G D T33 := trivial
noncomputable def M33 : TT (SV × SP) := evFnD (cfgT F (fun _ => none) hpE T33) 2000 56 (patAs 0 [(false, [(.lit (.int .u32 (.lit 27263123)))])]) ⟨hpE, []⟩
def spc33 : PC := []
def r33_0c0 : RT := (.leaf (.tuple [(.agg [(.int .i64 (.lit 19)), (.int .i64 (.lit 1)), (.int .i64 (.lit 0)), (.int .i64 (.lit 0)), (.int .i64 (.lit 0)), (.int .u32 (.lit 26)), (.bool (.lit false)), (.bool (.lit false))]), (.bool (.lit true))]))
theorem r33_0k0 : r33_0c0.ok 0 M33 spc33 = true := by kernel_rfl
def sm33 : Sm := ⟨[(false, [(.lit (.int .u32 (.lit 27263123)))])], false, r33_0c0⟩
theorem sv33 (G : Nat → Option Nat) (D : Hp) : SmValid Tryz.prog (GofSm G sm33) (DofSm D sm33) 56 sm33 := smValid0 (T := T33) (fuel := 2000) mixed hF (VT33 _ _) rfl r33_0k0
def T34 : List (Nat × List Sm) := []
theorem VT34 (G : Nat → Option Nat) (D : Hp) : AllV Tryz.prog G D T34 := trivial
noncomputable def M34 : TT (SV × SP) := evFnD (cfgT F (fun _ => none) hpE T34) 2000 56 (patAs 0 [(false, [(.lit (.int .u32 (.lit 28311699)))])]) ⟨hpE, []⟩
def spc34 : PC := []
def r34_0c0 : RT := (.leaf (.tuple [(.agg [(.int .i64 (.lit 19)), (.int .i64 (.lit 1)), (.int .i64 (.lit 0)), (.int .i64 (.lit 0)), (.int .i64 (.lit 0)), (.int .u32 (.lit 27)), (.bool (.lit false)), (.bool (.lit false))]), (.bool (.lit true))]))
theorem r34_0k0 : r34_0c0.ok 0 M34 spc34 = true := by kernel_rfl
def sm34 : Sm := ⟨[(false, [(.lit (.int .u32 (.lit 28311699)))])], false, r34_0c0⟩
theorem sv34 (G : Nat → Option Nat) (D : Hp) : SmValid Tryz.prog (GofSm G sm34) (DofSm D sm34) 56 sm34 := smValid0 (T := T34) (fuel := 2000) mixed hF (VT34 _ _) rfl r34_0k0
def T35 : List (Nat × List Sm) := []
theorem VT35 (G : Nat → Option Nat) (D : Hp) : AllV Tryz.prog G D T35 := trivial
noncomputable def M35 : TT (SV × SP) := evFnD (cfgT F (fun _ => none) hpE T35) 2000 56 (patAs 0 [(false, [(.lit (.int .u32 (.lit 29360275)))])]) ⟨hpE, []⟩
def spc35 : PC := []
def r35_0c0 : RT := (.leaf (.tuple [(.agg [(.int .i64 (.lit 19)), (.int .i64 (.lit 1)), (.int .i64 (.lit 0)), (.int .i64 (.lit 0)), (.int .i64 (.lit 0)), (.int .u32 (.lit 28)), (.bool (.lit false)), (.bool (.lit false))]), (.bool (.lit true))]))
theorem r35_0k0 : r35_0c0.ok 0 M35 spc35 = true := by kernel_rfl
def sm35 : Sm := ⟨[(false, [(.lit (.int .u32 (.lit 29360275)))])], false, r35_0c0⟩
theorem sv35 (G : Nat → Option Nat) (D : Hp) : SmValid Tryz.prog (GofSm G sm35) (DofSm D sm35) 56 sm35 := smValid0 (T := T35) (fuel := 2000) mixed hF (VT35 _ _) rfl r35_0k0
def T36 : List (Nat × List Sm) := []
theorem VT36 (G : Nat → Option Nat) (D : Hp) : AllV Tryz.prog G D T36 := trivial
noncomputable def M36 : TT (SV × SP) := evFnD (cfgT F (fun _ => none) hpE T36) 2000 56 (patAs 0 [(false, [(.lit (.int .u32 (.lit 30408851)))])]) ⟨hpE, []⟩
def spc36 : PC := []
def r36_0c0 : RT := (.leaf (.tuple [(.agg [(.int .i64 (.lit 19)), (.int .i64 (.lit 1)), (.int .i64 (.lit 0)), (.int .i64 (.lit 0)), (.int .i64 (.lit 0)), (.int .u32 (.lit 29)), (.bool (.lit false)), (.bool (.lit false))]), (.bool (.lit true))]))
theorem r36_0k0 : r36_0c0.ok 0 M36 spc36 = true := by kernel_rfl
def sm36 : Sm := ⟨[(false, [(.lit (.int .u32 (.lit 30408851)))])], false, r36_0c0⟩
theorem sv36 (G : Nat → Option Nat) (D : Hp) : SmValid Tryz.prog (GofSm G sm36) (DofSm D sm36) 56 sm36 := smValid0 (T := T36) (fuel := 2000) mixed hF (VT36 _ _) rfl r36_0k0
def T37 : List (Nat × List Sm) := []
theorem VT37 (G : Nat → Option Nat) (D : Hp) : AllV Tryz.prog G D T37 := trivial
noncomputable def M37 : TT (SV × SP) := evFnD (cfgT F (fun _ => none) hpE T37) 2000 56 (patAs 0 [(false, [(.lit (.int .u32 (.lit 31457427)))])]) ⟨hpE, []⟩
def spc37 : PC := []
def r37_0c0 : RT := (.leaf (.tuple [(.agg [(.int .i64 (.lit 19)), (.int .i64 (.lit 1)), (.int .i64 (.lit 0)), (.int .i64 (.lit 0)), (.int .i64 (.lit 0)), (.int .u32 (.lit 30)), (.bool (.lit false)), (.bool (.lit false))]), (.bool (.lit true))]))
theorem r37_0k0 : r37_0c0.ok 0 M37 spc37 = true := by kernel_rfl
def sm37 : Sm := ⟨[(false, [(.lit (.int .u32 (.lit 31457427)))])], false, r37_0c0⟩
theorem sv37 (G : Nat → Option Nat) (D : Hp) : SmValid Tryz.prog (GofSm G sm37) (DofSm D sm37) 56 sm37 := smValid0 (T := T37) (fuel := 2000) mixed hF (VT37 _ _) rfl r37_0k0
def T38 : List (Nat × List Sm) := []
theorem VT38 (G : Nat → Option Nat) (D : Hp) : AllV Tryz.prog G D T38 := trivial
noncomputable def M38 : TT (SV × SP) := evFnD (cfgT F (fun _ => none) hpE T38) 2000 7 (patAs 0 [(false, [(.lit (.int .i64 (.lit 19)))]), (false, [(.lit (.int .i64 (.lit 1)))]), (false, [(.lit (.int .i64 (.lit 0)))]), (false, [(.lit (.int .i64 (.lit 0)))]), (false, [(.lit (.int .u32 (.lit 5)))])]) ⟨hpE, []⟩
def spc38 : PC := []
def r38_0c0 : RT := (.leaf (.int .u32 (.lit 5243027)))
theorem r38_0k0 : r38_0c0.ok 0 M38 spc38 = true := by kernel_rfl
def sm38 : Sm := ⟨[(false, [(.lit (.int .i64 (.lit 19)))]), (false, [(.lit (.int .i64 (.lit 1)))]), (false, [(.lit (.int .i64 (.lit 0)))]), (false, [(.lit (.int .i64 (.lit 0)))]), (false, [(.lit (.int .u32 (.lit 5)))])], false, r38_0c0⟩
theorem sv38 (G : Nat → Option Nat) (D : Hp) : SmValid Tryz.prog (GofSm G sm38) (DofSm D sm38) 7 sm38 := smValid0 (T := T38) (fuel := 2000) mixed hF (VT38 _ _) rfl r38_0k0
def T39 : List (Nat × List Sm) := []
theorem VT39 (G : Nat → Option Nat) (D : Hp) : AllV Tryz.prog G D T39 := trivial
noncomputable def M39 : TT (SV × SP) := evFnD (cfgT F (fun _ => none) hpE T39) 2000 7 (patAs 0 [(false, [(.lit (.int .i64 (.lit 18)))]), (false, [(.lit (.int .i64 (.lit 0)))]), (false, [(.lit (.int .i64 (.lit 0)))]), (false, [(.lit (.int .i64 (.lit 1)))]), (false, [(.lit (.int .u32 (.lit 64)))])]) ⟨hpE, []⟩
def spc39 : PC := []
def r39_0c0 : RT := (.leaf (.int .u32 (.lit 68165667)))
theorem r39_0k0 : r39_0c0.ok 0 M39 spc39 = true := by kernel_rfl
def sm39 : Sm := ⟨[(false, [(.lit (.int .i64 (.lit 18)))]), (false, [(.lit (.int .i64 (.lit 0)))]), (false, [(.lit (.int .i64 (.lit 0)))]), (false, [(.lit (.int .i64 (.lit 1)))]), (false, [(.lit (.int .u32 (.lit 64)))])], false, r39_0c0⟩
theorem sv39 (G : Nat → Option Nat) (D : Hp) : SmValid Tryz.prog (GofSm G sm39) (DofSm D sm39) 7 sm39 := smValid0 (T := T39) (fuel := 2000) mixed hF (VT39 _ _) rfl r39_0k0
def T40 : List (Nat × List Sm) := []
theorem VT40 (G : Nat → Option Nat) (D : Hp) : AllV Tryz.prog G D T40 := trivial
noncomputable def M40 : TT (SV × SP) := evFnD (cfgT F (fun _ => none) hpE T40) 2000 7 (patAs 0 [(false, [(.lit (.int .i64 (.lit 19)))]), (false, [(.lit (.int .i64 (.lit 1)))]), (false, [(.lit (.int .i64 (.lit 0)))]), (false, [(.lit (.int .i64 (.lit 0)))]), (false, [(.lit (.int .u32 (.lit 1)))])]) ⟨hpE, []⟩
def spc40 : PC := []
def r40_0c0 : RT := (.leaf (.int .u32 (.lit 1048723)))
theorem r40_0k0 : r40_0c0.ok 0 M40 spc40 = true := by kernel_rfl
def sm40 : Sm := ⟨[(false, [(.lit (.int .i64 (.lit 19)))]), (false, [(.lit (.int .i64 (.lit 1)))]), (false, [(.lit (.int .i64 (.lit 0)))]), (false, [(.lit (.int .i64 (.lit 0)))]), (false, [(.lit (.int .u32 (.lit 1)))])], false, r40_0c0⟩
theorem sv40 (G : Nat → Option Nat) (D : Hp) : SmValid Tryz.prog (GofSm G sm40) (DofSm D sm40) 7 sm40 := smValid0 (T := T40) (fuel := 2000) mixed hF (VT40 _ _) rfl r40_0k0
def T41 : List (Nat × List Sm) := []
theorem VT41 (G : Nat → Option Nat) (D : Hp) : AllV Tryz.prog G D T41 := trivial
noncomputable def M41 : TT (SV × SP) := evFnD (cfgT F (fun _ => none) hpE T41) 2000 7 (patAs 0 [(false, [(.lit (.int .i64 (.lit 19)))]), (false, [(.lit (.int .i64 (.lit 3)))]), (false, [(.lit (.int .i64 (.lit 3)))]), (false, [(.lit (.int .i64 (.lit 0)))]), (false, [(.lit (.int .u32 (.lit 1)))])]) ⟨hpE, []⟩
def spc41 : PC := []
def r41_0c0 : RT := (.leaf (.int .u32 (.lit 1147283)))
theorem r41_0k0 : r41_0c0.ok 0 M41 spc41 = true := by kernel_rfl
def sm41 : Sm := ⟨[(false, [(.lit (.int .i64 (.lit 19)))]), (false, [(.lit (.int .i64 (.lit 3)))]), (false, [(.lit (.int .i64 (.lit 3)))]), (false, [(.lit (.int .i64 (.lit 0)))]), (false, [(.lit (.int .u32 (.lit 1)))])], false, r41_0c0⟩
theorem sv41 (G : Nat → Option Nat) (D : Hp) : SmValid Tryz.prog (GofSm G sm41) (DofSm D sm41) 7 sm41 := smValid0 (T := T41) (fuel := 2000) mixed hF (VT41 _ _) rfl r41_0k0
def T42 : List (Nat × List Sm) := []
theorem VT42 (G : Nat → Option Nat) (D : Hp) : AllV Tryz.prog G D T42 := trivial
noncomputable def M42 : TT (SV × SP) := evFnD (cfgT F (fun _ => none) hpE T42) 2000 7 (patAs 0 [(false, [(.lit (.int .i64 (.lit 19)))]), (false, [(.lit (.int .i64 (.lit 1)))]), (false, [(.lit (.int .i64 (.lit 1)))]), (false, [(.lit (.int .i64 (.lit 0)))]), (false, [(.lit (.int .u32 (.lit 4294967295)))])]) ⟨hpE, []⟩
def spc42 : PC := []
def r42_0c0 : RT := (.leaf (.int .u32 (.lit 4293951635)))
theorem r42_0k0 : r42_0c0.ok 0 M42 spc42 = true := by kernel_rfl
def sm42 : Sm := ⟨[(false, [(.lit (.int .i64 (.lit 19)))]), (false, [(.lit (.int .i64 (.lit 1)))]), (false, [(.lit (.int .i64 (.lit 1)))]), (false, [(.lit (.int .i64 (.lit 0)))]), (false, [(.lit (.int .u32 (.lit 4294967295)))])], false, r42_0c0⟩
theorem sv42 (G : Nat → Option Nat) (D : Hp) : SmValid Tryz.prog (GofSm G sm42) (DofSm D sm42) 7 sm42 := smValid0 (T := T42) (fuel := 2000) mixed hF (VT42 _ _) rfl r42_0k0
def T43 : List (Nat × List Sm) := []
theorem VT43 (G : Nat → Option Nat) (D : Hp) : AllV Tryz.prog G D T43 := trivial
noncomputable def M43 : TT (SV × SP) := evFnD (cfgT F (fun _ => none) hpE T43) 2000 7 (patAs 0 [(false, [(.lit (.int .i64 (.lit 6)))]), (false, [(.lit (.int .i64 (.lit 0)))]), (false, [(.lit (.int .i64 (.lit 1)))]), (false, [(.lit (.int .i64 (.lit 0)))]), (false, [(.lit (.int .u32 (.lit 4294967288)))])]) ⟨hpE, []⟩
def spc43 : PC := []
def r43_0c0 : RT := (.leaf (.int .u32 (.lit 4261453027)))
theorem r43_0k0 : r43_0c0.ok 0 M43 spc43 = true := by kernel_rfl
def sm43 : Sm := ⟨[(false, [(.lit (.int .i64 (.lit 6)))]), (false, [(.lit (.int .i64 (.lit 0)))]), (false, [(.lit (.int .i64 (.lit 1)))]), (false, [(.lit (.int .i64 (.lit 0)))]), (false, [(.lit (.int .u32 (.lit 4294967288)))])], false, r43_0c0⟩
theorem sv43 (G : Nat → Option Nat) (D : Hp) : SmValid Tryz.prog (GofSm G sm43) (DofSm D sm43) 7 sm43 := smValid0 (T := T43) (fuel := 2000) mixed hF (VT43 _ _) rfl r43_0k0
def T44 : List (Nat × List Sm) := []
theorem VT44 (G : Nat → Option Nat) (D : Hp) : AllV Tryz.prog G D T44 := trivial
noncomputable def M44 : TT (SV × SP) := evFnD (cfgT F (fun _ => none) hpE T44) 2000 7 (patAs 0 [(false, [(.lit (.int .i64 (.lit 18)))]), (false, [(.lit (.int .i64 (.lit 0)))]), (false, [(.lit (.int .i64 (.lit 0)))]), (false, [(.lit (.int .i64 (.lit 3)))]), (false, [(.lit (.int .u32 (.lit 96)))])]) ⟨hpE, []⟩
def spc44 : PC := []
def r44_0c0 : RT := (.leaf (.int .u32 (.lit 103817251)))
theorem r44_0k0 : r44_0c0.ok 0 M44 spc44 = true := by kernel_rfl
def sm44 : Sm := ⟨[(false, [(.lit (.int .i64 (.lit 18)))]), (false, [(.lit (.int .i64 (.lit 0)))]), (false, [(.lit (.int .i64 (.lit 0)))]), (false, [(.lit (.int .i64 (.lit 3)))]), (false, [(.lit (.int .u32 (.lit 96)))])], false, r44_0c0⟩
theorem sv44 (G : Nat → Option Nat) (D : Hp) : SmValid Tryz.prog (GofSm G sm44) (DofSm D sm44) 7 sm44 := smValid0 (T := T44) (fuel := 2000) mixed hF (VT44 _ _) rfl r44_0k0
def T45 : List (Nat × List Sm) := []
theorem VT45 (G : Nat → Option Nat) (D : Hp) : AllV Tryz.prog G D T45 := trivial
noncomputable def M45 : TT (SV × SP) := evFnD (cfgT F (fun _ => none) hpE T45) 2000 7 (patAs 0 [(false, [(.lit (.int .i64 (.lit 19)))]), (false, [(.lit (.int .i64 (.lit 1)))]), (false, [(.lit (.int .i64 (.lit 0)))]), (false, [(.lit (.int .i64 (.lit 0)))]), (false, [(.lit (.int .u32 (.lit 2)))])]) ⟨hpE, []⟩
def spc45 : PC := []
def r45_0c0 : RT := (.leaf (.int .u32 (.lit 2097299)))
theorem r45_0k0 : r45_0c0.ok 0 M45 spc45 = true := by kernel_rfl
def sm45 : Sm := ⟨[(false, [(.lit (.int .i64 (.lit 19)))]), (false, [(.lit (.int .i64 (.lit 1)))]), (false, [(.lit (.int .i64 (.lit 0)))]), (false, [(.lit (.int .i64 (.lit 0)))]), (false, [(.lit (.int .u32 (.lit 2)))])], false, r45_0c0⟩
theorem sv45 (G : Nat → Option Nat) (D : Hp) : SmValid Tryz.prog (GofSm G sm45) (DofSm D sm45) 7 sm45 := smValid0 (T := T45) (fuel := 2000) mixed hF (VT45 _ _) rfl r45_0k0
def T46 : List (Nat × List Sm) := []
theorem VT46 (G : Nat → Option Nat) (D : Hp) : AllV Tryz.prog G D T46 := trivial
noncomputable def M46 : TT (SV × SP) := evFnD (cfgT F (fun _ => none) hpE T46) 2000 7 (patAs 0 [(false, [(.lit (.int .i64 (.lit 19)))]), (false, [(.lit (.int .i64 (.lit 1)))]), (false, [(.lit (.int .i64 (.lit 0)))]), (false, [(.lit (.int .i64 (.lit 0)))]), (false, [(.lit (.int .u32 (.lit 3)))])]) ⟨hpE, []⟩
def spc46 : PC := []
def r46_0c0 : RT := (.leaf (.int .u32 (.lit 3145875)))
theorem r46_0k0 : r46_0c0.ok 0 M46 spc46 = true := by kernel_rfl
def sm46 : Sm := ⟨[(false, [(.lit (.int .i64 (.lit 19)))]), (false, [(.lit (.int .i64 (.lit 1)))]), (false, [(.lit (.int .i64 (.lit 0)))]), (false, [(.lit (.int .i64 (.lit 0)))]), (false, [(.lit (.int .u32 (.lit 3)))])], false, r46_0c0⟩
theorem sv46 (G : Nat → Option Nat) (D : Hp) : SmValid Tryz.prog (GofSm G sm46) (DofSm D sm46) 7 sm46 := smValid0 (T := T46) (fuel := 2000) mixed hF (VT46 _ _) rfl r46_0k0
def T47 : List (Nat × List Sm) := []
theorem VT47 (G : Nat → Option Nat) (D : Hp) : AllV Tryz.prog G D T47 := trivial
noncomputable def M47 : TT (SV × SP) := evFnD (cfgT F (fun _ => none) hpE T47) 2000 7 (patAs 0 [(false, [(.lit (.int .i64 (.lit 19)))]), (false, [(.lit (.int .i64 (.lit 1)))]), (false, [(.lit (.int .i64 (.lit 0)))]), (false, [(.lit (.int .i64 (.lit 0)))]), (false, [(.lit (.int .u32 (.lit 4)))])]) ⟨hpE, []⟩
def spc47 : PC := []
def r47_0c0 : RT := (.leaf (.int .u32 (.lit 4194451)))
theorem r47_0k0 : r47_0c0.ok 0 M47 spc47 = true := by kernel_rfl
def sm47 : Sm := ⟨[(false, [(.lit (.int .i64 (.lit 19)))]), (false, [(.lit (.int .i64 (.lit 1)))]), (false, [(.lit (.int .i64 (.lit 0)))]), (false, [(.lit (.int .i64 (.lit 0)))]), (false, [(.lit (.int .u32 (.lit 4)))])], false, r47_0c0⟩
theorem sv47 (G : Nat → Option Nat) (D : Hp) : SmValid Tryz.prog (GofSm G sm47) (DofSm D sm47) 7 sm47 := smValid0 (T := T47) (fuel := 2000) mixed hF (VT47 _ _) rfl r47_0k0
def T48 : List (Nat × List Sm) := []
theorem VT48 (G : Nat → Option Nat) (D : Hp) : AllV Tryz.prog G D T48 := trivial
noncomputable def M48 : TT (SV × SP) := evFnD (cfgT F (fun _ => none) hpE T48) 2000 7 (patAs 0 [(false, [(.lit (.int .i64 (.lit 19)))]), (false, [(.lit (.int .i64 (.lit 1)))]), (false, [(.lit (.int .i64 (.lit 0)))]), (false, [(.lit (.int .i64 (.lit 0)))]), (false, [(.lit (.int .u32 (.lit 6)))])]) ⟨hpE, []⟩
def spc48 : PC := []
def r48_0c0 : RT := (.leaf (.int .u32 (.lit 6291603)))
theorem r48_0k0 : r48_0c0.ok 0 M48 spc48 = true := by kernel_rfl
def sm48 : Sm := ⟨[(false, [(.lit (.int .i64 (.lit 19)))]), (false, [(.lit (.int .i64 (.lit 1)))]), (false, [(.lit (.int .i64 (.lit 0)))]), (false, [(.lit (.int .i64 (.lit 0)))]), (false, [(.lit (.int .u32 (.lit 6)))])], false, r48_0c0⟩
theorem sv48 (G : Nat → Option Nat) (D : Hp) : SmValid Tryz.prog (GofSm G sm48) (DofSm D sm48) 7 sm48 := smValid0 (T := T48) (fuel := 2000) mixed hF (VT48 _ _) rfl r48_0k0
def T49 : List (Nat × List Sm) := []
theorem VT49 (G : Nat → Option Nat) (D : Hp) : AllV Tryz.prog G D T49 := trivial
noncomputable def M49 : TT (SV × SP) := evFnD (cfgT F (fun _ => none) hpE T49) 2000 7 (patAs 0 [(false, [(.lit (.int .i64 (.lit 19)))]), (false, [(.lit (.int .i64 (.lit 1)))]), (false, [(.lit (.int .i64 (.lit 0)))]), (false, [(.lit (.int .i64 (.lit 0)))]), (false, [(.lit (.int .u32 (.lit 7)))])]) ⟨hpE, []⟩
def spc49 : PC := []
def r49_0c0 : RT := (.leaf (.int .u32 (.lit 7340179)))
theorem r49_0k0 : r49_0c0.ok 0 M49 spc49 = true := by kernel_rfl
def sm49 : Sm := ⟨[(false, [(.lit (.int .i64 (.lit 19)))]), (false, [(.lit (.int .i64 (.lit 1)))]), (false, [(.lit (.int .i64 (.lit 0)))]), (false, [(.lit (.int .i64 (.lit 0)))]), (false, [(.lit (.int .u32 (.lit 7)))])], false, r49_0c0⟩
theorem sv49 (G : Nat → Option Nat) (D : Hp) : SmValid Tryz.prog (GofSm G sm49) (DofSm D sm49) 7 sm49 := smValid0 (T := T49) (fuel := 2000) mixed hF (VT49 _ _) rfl r49_0k0
def T50 : List (Nat × List Sm) := []
theorem VT50 (G : Nat → Option Nat) (D : Hp) : AllV Tryz.prog G D T50 := trivial
noncomputable def M50 : TT (SV × SP) := evFnD (cfgT F (fun _ => none) hpE T50) 2000 7 (patAs 0 [(false, [(.lit (.int .i64 (.lit 19)))]), (false, [(.lit (.int .i64 (.lit 1)))]), (false, [(.lit (.int .i64 (.lit 0)))]), (false, [(.lit (.int .i64 (.lit 0)))]), (false, [(.lit (.int .u32 (.lit 8)))])]) ⟨hpE, []⟩
def spc50 : PC := []
def r50_0c0 : RT := (.leaf (.int .u32 (.lit 8388755)))
theorem r50_0k0 : r50_0c0.ok 0 M50 spc50 = true := by kernel_rfl
def sm50 : Sm := ⟨[(false, [(.lit (.int .i64 (.lit 19)))]), (false, [(.lit (.int .i64 (.lit 1)))]), (false, [(.lit (.int .i64 (.lit 0)))]), (false, [(.lit (.int .i64 (.lit 0)))]), (false, [(.lit (.int .u32 (.lit 8)))])], false, r50_0c0⟩
theorem sv50 (G : Nat → Option Nat) (D : Hp) : SmValid Tryz.prog (GofSm G sm50) (DofSm D sm50) 7 sm50 := smValid0 (T := T50) (fuel := 2000) mixed hF (VT50 _ _) rfl r50_0k0
def T51 : List (Nat × List Sm) := []
theorem VT51 (G : Nat → Option Nat) (D : Hp) : AllV Tryz.prog G D T51 := trivial
noncomputable def M51 : TT (SV × SP) := evFnD (cfgT F (fun _ => none) hpE T51) 2000 7 (patAs 0 [(false, [(.lit (.int .i64 (.lit 19)))]), (false, [(.lit (.int .i64 (.lit 1)))]), (false, [(.lit (.int .i64 (.lit 0)))]), (false, [(.lit (.int .i64 (.lit 0)))]), (false, [(.lit (.int .u32 (.lit 9)))])]) ⟨hpE, []⟩
def spc51 : PC := []
def r51_0c0 : RT := (.leaf (.int .u32 (.lit 9437331)))
theorem r51_0k0 : r51_0c0.ok 0 M51 spc51 = true := by kernel_rfl
def sm51 : Sm := ⟨[(false, [(.lit (.int .i64 (.lit 19)))]), (false, [(.lit (.int .i64 (.lit 1)))]), (false, [(.lit (.int .i64 (.lit 0)))]), (false, [(.lit (.int .i64 (.lit 0)))]), (false, [(.lit (.int .u32 (.lit 9)))])], false, r51_0c0⟩
theorem sv51 (G : Nat → Option Nat) (D : Hp) : SmValid Tryz.prog (GofSm G sm51) (DofSm D sm51) 7 sm51 := smValid0 (T := T51) (fuel := 2000) mixed hF (VT51 _ _) rfl r51_0k0
def T52 : List (Nat × List Sm) := []
theorem VT52 (G : Nat → Option Nat) (D : Hp) : AllV Tryz.prog G D T52 := trivial
noncomputable def M52 : TT (SV × SP) := evFnD (cfgT F (fun _ => none) hpE T52) 2000 7 (patAs 0 [(false, [(.lit (.int .i64 (.lit 19)))]), (false, [(.lit (.int .i64 (.lit 1)))]), (false, [(.lit (.int .i64 (.lit 0)))]), (false, [(.lit (.int .i64 (.lit 0)))]), (false, [(.lit (.int .u32 (.lit 10)))])]) ⟨hpE, []⟩
def spc52 : PC := []
def r52_0c0 : RT := (.leaf (.int .u32 (.lit 10485907)))
theorem r52_0k0 : r52_0c0.ok 0 M52 spc52 = true := by kernel_rfl
def sm52 : Sm := ⟨[(false, [(.lit (.int .i64 (.lit 19)))]), (false, [(.lit (.int .i64 (.lit 1)))]), (false, [(.lit (.int .i64 (.lit 0)))]), (false, [(.lit (.int .i64 (.lit 0)))]), (false, [(.lit (.int .u32 (.lit 10)))])], false, r52_0c0⟩
theorem sv52 (G : Nat → Option Nat) (D : Hp) : SmValid Tryz.prog (GofSm G sm52) (DofSm D sm52) 7 sm52 := smValid0 (T := T52) (fuel := 2000) mixed hF (VT52 _ _) rfl r52_0k0
def T53 : List (Nat × List Sm) := []
theorem VT53 (G : Nat → Option Nat) (D : Hp) : AllV Tryz.prog G D T53 := trivial
noncomputable def M53 : TT (SV × SP) := evFnD (cfgT F (fun _ => none) hpE T53) 2000 7 (patAs 0 [(false, [(.lit (.int .i64 (.lit 19)))]), (false, [(.lit (.int .i64 (.lit 1)))]), (false, [(.lit (.int .i64 (.lit 0)))]), (false, [(.lit (.int .i64 (.lit 0)))]), (false, [(.lit (.int .u32 (.lit 11)))])]) ⟨hpE, []⟩
def spc53 : PC := []
def r53_0c0 : RT := (.leaf (.int .u32 (.lit 11534483)))
theorem r53_0k0 : r53_0c0.ok 0 M53 spc53 = true := by kernel_rfl
def sm53 : Sm := ⟨[(false, [(.lit (.int .i64 (.lit 19)))]), (false, [(.lit (.int .i64 (.lit 1)))]), (false, [(.lit (.int .i64 (.lit 0)))]), (false, [(.lit (.int .i64 (.lit 0)))]), (false, [(.lit (.int .u32 (.lit 11)))])], false, r53_0c0⟩
theorem sv53 (G : Nat → Option Nat) (D : Hp) : SmValid Tryz.prog (GofSm G sm53) (DofSm D sm53) 7 sm53 := smValid0 (T := T53) (fuel := 2000) mixed hF (VT53 _ _) rfl r53_0k0
def T54 : List (Nat × List Sm) := []
theorem VT54 (G : Nat → Option Nat) (D : Hp) : AllV Tryz.prog G D T54 := trivial
noncomputable def M54 : TT (SV × SP) := evFnD (cfgT F (fun _ => none) hpE T54) 2000 7 (patAs 0 [(false, [(.lit (.int .i64 (.lit 19)))]), (false, [(.lit (.int .i64 (.lit 1)))]), (false, [(.lit (.int .i64 (.lit 0)))]), (false, [(.lit (.int .i64 (.lit 0)))]), (false, [(.lit (.int .u32 (.lit 12)))])]) ⟨hpE, []⟩
def spc54 : PC := []
def r54_0c0 : RT := (.leaf (.int .u32 (.lit 12583059)))
theorem r54_0k0 : r54_0c0.ok 0 M54 spc54 = true := by kernel_rfl
def sm54 : Sm := ⟨[(false, [(.lit (.int .i64 (.lit 19)))]), (false, [(.lit (.int .i64 (.lit 1)))]), (false, [(.lit (.int .i64 (.lit 0)))]), (false, [(.lit (.int .i64 (.lit 0)))]), (false, [(.lit (.int .u32 (.lit 12)))])], false, r54_0c0⟩
theorem sv54 (G : Nat → Option Nat) (D : Hp) : SmValid Tryz.prog (GofSm G sm54) (DofSm D sm54) 7 sm54 := smValid0 (T := T54) (fuel := 2000) mixed hF (VT54 _ _) rfl r54_0k0
def T55 : List (Nat × List Sm) := []
theorem VT55 (G : Nat → Option Nat) (D : Hp) : AllV Tryz.prog G D T55 := trivial
noncomputable def M55 : TT (SV × SP) := evFnD (cfgT F (fun _ => none) hpE T55) 2000 7 (patAs 0 [(false, [(.lit (.int .i64 (.lit 19)))]), (false, [(.lit (.int .i64 (.lit 1)))]), (false, [(.lit (.int .i64 (.lit 0)))]), (false, [(.lit (.int .i64 (.lit 0)))]), (false, [(.lit (.int .u32 (.lit 13)))])]) ⟨hpE, []⟩
def spc55 : PC := []
def r55_0c0 : RT := (.leaf (.int .u32 (.lit 13631635)))
theorem r55_0k0 : r55_0c0.ok 0 M55 spc55 = true := by kernel_rfl
def sm55 : Sm := ⟨[(false, [(.lit (.int .i64 (.lit 19)))]), (false, [(.lit (.int .i64 (.lit 1)))]), (false, [(.lit (.int .i64 (.lit 0)))]), (false, [(.lit (.int .i64 (.lit 0)))]), (false, [(.lit (.int .u32 (.lit 13)))])], false, r55_0c0⟩
theorem sv55 (G : Nat → Option Nat) (D : Hp) : SmValid Tryz.prog (GofSm G sm55) (DofSm D sm55) 7 sm55 := smValid0 (T := T55) (fuel := 2000) mixed hF (VT55 _ _) rfl r55_0k0
def T56 : List (Nat × List Sm) := []
theorem VT56 (G : Nat → Option Nat) (D : Hp) : AllV Tryz.prog G D T56 := trivial
noncomputable def M56 : TT (SV × SP) := evFnD (cfgT F (fun _ => none) hpE T56) 2000 7 (patAs 0 [(false, [(.lit (.int .i64 (.lit 19)))]), (false, [(.lit (.int .i64 (.lit 1)))]), (false, [(.lit (.int .i64 (.lit 0)))]), (false, [(.lit (.int .i64 (.lit 0)))]), (false, [(.lit (.int .u32 (.lit 14)))])]) ⟨hpE, []⟩
def spc56 : PC := []
def r56_0c0 : RT := (.leaf (.int .u32 (.lit 14680211)))
theorem r56_0k0 : r56_0c0.ok 0 M56 spc56 = true := by kernel_rfl
def sm56 : Sm := ⟨[(false, [(.lit (.int .i64 (.lit 19)))]), (false, [(.lit (.int .i64 (.lit 1)))]), (false, [(.lit (.int .i64 (.lit 0)))]), (false, [(.lit (.int .i64 (.lit 0)))]), (false, [(.lit (.int .u32 (.lit 14)))])], false, r56_0c0⟩
theorem sv56 (G : Nat → Option Nat) (D : Hp) : SmValid Tryz.prog (GofSm G sm56) (DofSm D sm56) 7 sm56 := smValid0 (T := T56) (fuel := 2000) mixed hF (VT56 _ _) rfl r56_0k0
def T57 : List (Nat × List Sm) := []
theorem VT57 (G : Nat → Option Nat) (D : Hp) : AllV Tryz.prog G D T57 := trivial
noncomputable def M57 : TT (SV × SP) := evFnD (cfgT F (fun _ => none) hpE T57) 2000 7 (patAs 0 [(false, [(.lit (.int .i64 (.lit 19)))]), (false, [(.lit (.int .i64 (.lit 1)))]), (false, [(.lit (.int .i64 (.lit 0)))]), (false, [(.lit (.int .i64 (.lit 0)))]), (false, [(.lit (.int .u32 (.lit 15)))])]) ⟨hpE, []⟩
def spc57 : PC := []
def r57_0c0 : RT := (.leaf (.int .u32 (.lit 15728787)))
theorem r57_0k0 : r57_0c0.ok 0 M57 spc57 = true := by kernel_rfl
def sm57 : Sm := ⟨[(false, [(.lit (.int .i64 (.lit 19)))]), (false, [(.lit (.int .i64 (.lit 1)))]), (false, [(.lit (.int .i64 (.lit 0)))]), (false, [(.lit (.int .i64 (.lit 0)))]), (false, [(.lit (.int .u32 (.lit 15)))])], false, r57_0c0⟩
theorem sv57 (G : Nat → Option Nat) (D : Hp) : SmValid Tryz.prog (GofSm G sm57) (DofSm D sm57) 7 sm57 := smValid0 (T := T57) (fuel := 2000) mixed hF (VT57 _ _) rfl r57_0k0
def T58 : List (Nat × List Sm) := []
theorem VT58 (G : Nat → Option Nat) (D : Hp) : AllV Tryz.prog G D T58 := trivial
noncomputable def M58 : TT (SV × SP) := evFnD (cfgT F (fun _ => none) hpE T58) 2000 7 (patAs 0 [(false, [(.lit (.int .i64 (.lit 19)))]), (false, [(.lit (.int .i64 (.lit 1)))]), (false, [(.lit (.int .i64 (.lit 0)))]), (false, [(.lit (.int .i64 (.lit 0)))]), (false, [(.lit (.int .u32 (.lit 16)))])]) ⟨hpE, []⟩
def spc58 : PC := []
def r58_0c0 : RT := (.leaf (.int .u32 (.lit 16777363)))
theorem r58_0k0 : r58_0c0.ok 0 M58 spc58 = true := by kernel_rfl
def sm58 : Sm := ⟨[(false, [(.lit (.int .i64 (.lit 19)))]), (false, [(.lit (.int .i64 (.lit 1)))]), (false, [(.lit (.int .i64 (.lit 0)))]), (false, [(.lit (.int .i64 (.lit 0)))]), (false, [(.lit (.int .u32 (.lit 16)))])], false, r58_0c0⟩
theorem sv58 (G : Nat → Option Nat) (D : Hp) : SmValid Tryz.prog (GofSm G sm58) (DofSm D sm58) 7 sm58 := smValid0 (T := T58) (fuel := 2000) mixed hF (VT58 _ _) rfl r58_0k0
def T59 : List (Nat × List Sm) := []
theorem VT59 (G : Nat → Option Nat) (D : Hp) : AllV Tryz.prog G D T59 := trivial
noncomputable def M59 : TT (SV × SP) := evFnD (cfgT F (fun _ => none) hpE T59) 2000 7 (patAs 0 [(false, [(.lit (.int .i64 (.lit 19)))]), (false, [(.lit (.int .i64 (.lit 1)))]), (false, [(.lit (.int .i64 (.lit 0)))]), (false, [(.lit (.int .i64 (.lit 0)))]), (false, [(.lit (.int .u32 (.lit 17)))])]) ⟨hpE, []⟩
def spc59 : PC := []
def r59_0c0 : RT := (.leaf (.int .u32 (.lit 17825939)))
theorem r59_0k0 : r59_0c0.ok 0 M59 spc59 = true := by kernel_rfl
def sm59 : Sm := ⟨[(false, [(.lit (.int .i64 (.lit 19)))]), (false, [(.lit (.int .i64 (.lit 1)))]), (false, [(.lit (.int .i64 (.lit 0)))]), (false, [(.lit (.int .i64 (.lit 0)))]), (false, [(.lit (.int .u32 (.lit 17)))])], false, r59_0c0⟩
theorem sv59 (G : Nat → Option Nat) (D : Hp) : SmValid Tryz.prog (GofSm G sm59) (DofSm D sm59) 7 sm59 := smValid0 (T := T59) (fuel := 2000) mixed hF (VT59 _ _) rfl r59_0k0
def T60 : List (Nat × List Sm) := []
theorem VT60 (G : Nat → Option Nat) (D : Hp) : AllV Tryz.prog G D T60 := trivial
noncomputable def M60 : TT (SV × SP) := evFnD (cfgT F (fun _ => none) hpE T60) 2000 7 (patAs 0 [(false, [(.lit (.int .i64 (.lit 19)))]), (false, [(.lit (.int .i64 (.lit 1)))]), (false, [(.lit (.int .i64 (.lit 0)))]), (false, [(.lit (.int .i64 (.lit 0)))]), (false, [(.lit (.int .u32 (.lit 18)))])]) ⟨hpE, []⟩
def spc60 : PC := []
def r60_0c0 : RT := (.leaf (.int .u32 (.lit 18874515)))
theorem r60_0k0 : r60_0c0.ok 0 M60 spc60 = true := by kernel_rfl
def sm60 : Sm := ⟨[(false, [(.lit (.int .i64 (.lit 19)))]), (false, [(.lit (.int .i64 (.lit 1)))]), (false, [(.lit (.int .i64 (.lit 0)))]), (false, [(.lit (.int .i64 (.lit 0)))]), (false, [(.lit (.int .u32 (.lit 18)))])], false, r60_0c0⟩
theorem sv60 (G : Nat → Option Nat) (D : Hp) : SmValid Tryz.prog (GofSm G sm60) (DofSm D sm60) 7 sm60 := smValid0 (T := T60) (fuel := 2000) mixed hF (VT60 _ _) rfl r60_0k0
def T61 : List (Nat × List Sm) := []
theorem VT61 (G : Nat → Option Nat) (D : Hp) : AllV Tryz.prog G D T61 := trivial
noncomputable def M61 : TT (SV × SP) := evFnD (cfgT F (fun _ => none) hpE T61) 2000 7 (patAs 0 [(false, [(.lit (.int .i64 (.lit 19)))]), (false, [(.lit (.int .i64 (.lit 1)))]), (false, [(.lit (.int .i64 (.lit 0)))]), (false, [(.lit (.int .i64 (.lit 0)))]), (false, [(.lit (.int .u32 (.lit 19)))])]) ⟨hpE, []⟩
def spc61 : PC := []
def r61_0c0 : RT := (.leaf (.int .u32 (.lit 19923091)))
theorem r61_0k0 : r61_0c0.ok 0 M61 spc61 = true := by kernel_rfl
def sm61 : Sm := ⟨[(false, [(.lit (.int .i64 (.lit 19)))]), (false, [(.lit (.int .i64 (.lit 1)))]), (false, [(.lit (.int .i64 (.lit 0)))]), (false, [(.lit (.int .i64 (.lit 0)))]), (false, [(.lit (.int .u32 (.lit 19)))])], false, r61_0c0⟩
theorem sv61 (G : Nat → Option Nat) (D : Hp) : SmValid Tryz.prog (GofSm G sm61) (DofSm D sm61) 7 sm61 := smValid0 (T := T61) (fuel := 2000) mixed hF (VT61 _ _) rfl r61_0k0
def T62 : List (Nat × List Sm) := []
theorem VT62 (G : Nat → Option Nat) (D : Hp) : AllV Tryz.prog G D T62 := trivial
noncomputable def M62 : TT (SV × SP) := evFnD (cfgT F (fun _ => none) hpE T62) 2000 7 (patAs 0 [(false, [(.lit (.int .i64 (.lit 19)))]), (false, [(.lit (.int .i64 (.lit 1)))]), (false, [(.lit (.int .i64 (.lit 0)))]), (false, [(.lit (.int .i64 (.lit 0)))]), (false, [(.lit (.int .u32 (.lit 20)))])]) ⟨hpE, []⟩
def spc62 : PC := []
def r62_0c0 : RT := (.leaf (.int .u32 (.lit 20971667)))
theorem r62_0k0 : r62_0c0.ok 0 M62 spc62 = true := by kernel_rfl
def sm62 : Sm := ⟨[(false, [(.lit (.int .i64 (.lit 19)))]), (false, [(.lit (.int .i64 (.lit 1)))]), (false, [(.lit (.int .i64 (.lit 0)))]), (false, [(.lit (.int .i64 (.lit 0)))]), (false, [(.lit (.int .u32 (.lit 20)))])], false, r62_0c0⟩
theorem sv62 (G : Nat → Option Nat) (D : Hp) : SmValid Tryz.prog (GofSm G sm62) (DofSm D sm62) 7 sm62 := smValid0 (T := T62) (fuel := 2000) mixed hF (VT62 _ _) rfl r62_0k0
def T63 : List (Nat × List Sm) := []
theorem VT63 (G : Nat → Option Nat) (D : Hp) : AllV Tryz.prog G D T63 := trivial
noncomputable def M63 : TT (SV × SP) := evFnD (cfgT F (fun _ => none) hpE T63) 2000 7 (patAs 0 [(false, [(.lit (.int .i64 (.lit 19)))]), (false, [(.lit (.int .i64 (.lit 1)))]), (false, [(.lit (.int .i64 (.lit 0)))]), (false, [(.lit (.int .i64 (.lit 0)))]), (false, [(.lit (.int .u32 (.lit 21)))])]) ⟨hpE, []⟩
def spc63 : PC := []
def r63_0c0 : RT := (.leaf (.int .u32 (.lit 22020243)))
theorem r63_0k0 : r63_0c0.ok 0 M63 spc63 = true := by kernel_rfl
def sm63 : Sm := ⟨[(false, [(.lit (.int .i64 (.lit 19)))]), (false, [(.lit (.int .i64 (.lit 1)))]), (false, [(.lit (.int .i64 (.lit 0)))]), (false, [(.lit (.int .i64 (.lit 0)))]), (false, [(.lit (.int .u32 (.lit 21)))])], false, r63_0c0⟩
theorem sv63 (G : Nat → Option Nat) (D : Hp) : SmValid Tryz.prog (GofSm G sm63) (DofSm D sm63) 7 sm63 := smValid0 (T := T63) (fuel := 2000) mixed hF (VT63 _ _) rfl r63_0k0
def T64 : List (Nat × List Sm) := []
theorem VT64 (G : Nat → Option Nat) (D : Hp) : AllV Tryz.prog G D T64 := trivial
noncomputable def M64 : TT (SV × SP) := evFnD (cfgT F (fun _ => none) hpE T64) 2000 7 (patAs 0 [(false, [(.lit (.int .i64 (.lit 19)))]), (false, [(.lit (.int .i64 (.lit 1)))]), (false, [(.lit (.int .i64 (.lit 0)))]), (false, [(.lit (.int .i64 (.lit 0)))]), (false, [(.lit (.int .u32 (.lit 22)))])]) ⟨hpE, []⟩
def spc64 : PC := []
def r64_0c0 : RT := (.leaf (.int .u32 (.lit 23068819)))
theorem r64_0k0 : r64_0c0.ok 0 M64 spc64 = true := by kernel_rfl
def sm64 : Sm := ⟨[(false, [(.lit (.int .i64 (.lit 19)))]), (false, [(.lit (.int .i64 (.lit 1)))]), (false, [(.lit (.int .i64 (.lit 0)))]), (false, [(.lit (.int .i64 (.lit 0)))]), (false, [(.lit (.int .u32 (.lit 22)))])], false, r64_0c0⟩
theorem sv64 (G : Nat → Option Nat) (D : Hp) : SmValid Tryz.prog (GofSm G sm64) (DofSm D sm64) 7 sm64 := smValid0 (T := T64) (fuel := 2000) mixed hF (VT64 _ _) rfl r64_0k0
def T65 : List (Nat × List Sm) := []
theorem VT65 (G : Nat → Option Nat) (D : Hp) : AllV Tryz.prog G D T65 := trivial
noncomputable def M65 : TT (SV × SP) := evFnD (cfgT F (fun _ => none) hpE T65) 2000 7 (patAs 0 [(false, [(.lit (.int .i64 (.lit 19)))]), (false, [(.lit (.int .i64 (.lit 1)))]), (false, [(.lit (.int .i64 (.lit 0)))]), (false, [(.lit (.int .i64 (.lit 0)))]), (false, [(.lit (.int .u32 (.lit 23)))])]) ⟨hpE, []⟩
def spc65 : PC := []
def r65_0c0 : RT := (.leaf (.int .u32 (.lit 24117395)))
theorem r65_0k0 : r65_0c0.ok 0 M65 spc65 = true := by kernel_rfl
def sm65 : Sm := ⟨[(false, [(.lit (.int .i64 (.lit 19)))]), (false, [(.lit (.int .i64 (.lit 1)))]), (false, [(.lit (.int .i64 (.lit 0)))]), (false, [(.lit (.int .i64 (.lit 0)))]), (false, [(.lit (.int .u32 (.lit 23)))])], false, r65_0c0⟩
theorem sv65 (G : Nat → Option Nat) (D : Hp) : SmValid Tryz.prog (GofSm G sm65) (DofSm D sm65) 7 sm65 := smValid0 (T := T65) (fuel := 2000) mixed hF (VT65 _ _) rfl r65_0k0
def T66 : List (Nat × List Sm) := []
theorem VT66 (G : Nat → Option Nat) (D : Hp) : AllV Tryz.prog G D T66 := trivial
noncomputable def M66 : TT (SV × SP) := evFnD (cfgT F (fun _ => none) hpE T66) 2000 7 (patAs 0 [(false, [(.lit (.int .i64 (.lit 19)))]), (false, [(.lit (.int .i64 (.lit 1)))]), (false, [(.lit (.int .i64 (.lit 0)))]), (false, [(.lit (.int .i64 (.lit 0)))]), (false, [(.lit (.int .u32 (.lit 24)))])]) ⟨hpE, []⟩
def spc66 : PC := []
def r66_0c0 : RT := (.leaf (.int .u32 (.lit 25165971)))
theorem r66_0k0 : r66_0c0.ok 0 M66 spc66 = true := by kernel_rfl
def sm66 : Sm := ⟨[(false, [(.lit (.int .i64 (.lit 19)))]), (false, [(.lit (.int .i64 (.lit 1)))]), (false, [(.lit (.int .i64 (.lit 0)))]), (false, [(.lit (.int .i64 (.lit 0)))]), (false, [(.lit (.int .u32 (.lit 24)))])], false, r66_0c0⟩
theorem sv66 (G : Nat → Option Nat) (D : Hp) : SmValid Tryz.prog (GofSm G sm66) (DofSm D sm66) 7 sm66 := smValid0 (T := T66) (fuel := 2000) mixed hF (VT66 _ _) rfl r66_0k0
def T67 : List (Nat × List Sm) := []
theorem VT67 (G : Nat → Option Nat) (D : Hp) : AllV Tryz.prog G D T67 := trivial
noncomputable def M67 : TT (SV × SP) := evFnD (cfgT F (fun _ => none) hpE T67) 2000 7 (patAs 0 [(false, [(.lit (.int .i64 (.lit 19)))]), (false, [(.lit (.int .i64 (.lit 1)))]), (false, [(.lit (.int .i64 (.lit 0)))]), (false, [(.lit (.int .i64 (.lit 0)))]), (false, [(.lit (.int .u32 (.lit 25)))])]) ⟨hpE, []⟩
def spc67 : PC := []
def r67_0c0 : RT := (.leaf (.int .u32 (.lit 26214547)))
theorem r67_0k0 : r67_0c0.ok 0 M67 spc67 = true := by kernel_rfl
def sm67 : Sm := ⟨[(false, [(.lit (.int .i64 (.lit 19)))]), (false, [(.lit (.int .i64 (.lit 1)))]), (false, [(.lit (.int .i64 (.lit 0)))]), (false, [(.lit (.int .i64 (.lit 0)))]), (false, [(.lit (.int .u32 (.lit 25)))])], false, r67_0c0⟩
theorem sv67 (G : Nat → Option Nat) (D : Hp) : SmValid Tryz.prog (GofSm G sm67) (DofSm D sm67) 7 sm67 := smValid0 (T := T67) (fuel := 2000) mixed hF (VT67 _ _) rfl r67_0k0
def T68 : List (Nat × List Sm) := []
theorem VT68 (G : Nat → Option Nat) (D : Hp) : AllV Tryz.prog G D T68 := trivial
noncomputable def M68 : TT (SV × SP) := evFnD (cfgT F (fun _ => none) hpE T68) 2000 7 (patAs 0 [(false, [(.lit (.int .i64 (.lit 19)))]), (false, [(.lit (.int .i64 (.lit 1)))]), (false, [(.lit (.int .i64 (.lit 0)))]), (false, [(.lit (.int .i64 (.lit 0)))]), (false, [(.lit (.int .u32 (.lit 26)))])]) ⟨hpE, []⟩
def spc68 : PC := []
def r68_0c0 : RT := (.leaf (.int .u32 (.lit 27263123)))
theorem r68_0k0 : r68_0c0.ok 0 M68 spc68 = true := by kernel_rfl
def sm68 : Sm := ⟨[(false, [(.lit (.int .i64 (.lit 19)))]), (false, [(.lit (.int .i64 (.lit 1)))]), (false, [(.lit (.int .i64 (.lit 0)))]), (false, [(.lit (.int .i64 (.lit 0)))]), (false, [(.lit (.int .u32 (.lit 26)))])], false, r68_0c0⟩
theorem sv68 (G : Nat → Option Nat) (D : Hp) : SmValid Tryz.prog (GofSm G sm68) (DofSm D sm68) 7 sm68 := smValid0 (T := T68) (fuel := 2000) mixed hF (VT68 _ _) rfl r68_0k0
def T69 : List (Nat × List Sm) := []
theorem VT69 (G : Nat → Option Nat) (D : Hp) : AllV Tryz.prog G D T69 := trivial
noncomputable def M69 : TT (SV × SP) := evFnD (cfgT F (fun _ => none) hpE T69) 2000 7 (patAs 0 [(false, [(.lit (.int .i64 (.lit 19)))]), (false, [(.lit (.int .i64 (.lit 1)))]), (false, [(.lit (.int .i64 (.lit 0)))]), (false, [(.lit (.int .i64 (.lit 0)))]), (false, [(.lit (.int .u32 (.lit 27)))])]) ⟨hpE, []⟩
def spc69 : PC := []
def r69_0c0 : RT := (.leaf (.int .u32 (.lit 28311699)))
theorem r69_0k0 : r69_0c0.ok 0 M69 spc69 = true := by kernel_rfl
def sm69 : Sm := ⟨[(false, [(.lit (.int .i64 (.lit 19)))]), (false, [(.lit (.int .i64 (.lit 1)))]), (false, [(.lit (.int .i64 (.lit 0)))]), (false, [(.lit (.int .i64 (.lit 0)))]), (false, [(.lit (.int .u32 (.lit 27)))])], false, r69_0c0⟩
theorem sv69 (G : Nat → Option Nat) (D : Hp) : SmValid Tryz.prog (GofSm G sm69) (DofSm D sm69) 7 sm69 := smValid0 (T := T69) (fuel := 2000) mixed hF (VT69 _ _) rfl r69_0k0
def T70 : List (Nat × List Sm) := []
theorem VT70 (G : Nat → Option Nat) (D : Hp) : AllV Tryz.prog G D T70 := trivial
noncomputable def M70 : TT (SV × SP) := evFnD (cfgT F (fun _ => none) hpE T70) 2000 7 (patAs 0 [(false, [(.lit (.int .i64 (.lit 19)))]), (false, [(.lit (.int .i64 (.lit 1)))]), (false, [(.lit (.int .i64 (.lit 0)))]), (false, [(.lit (.int .i64 (.lit 0)))]), (false, [(.lit (.int .u32 (.lit 28)))])]) ⟨hpE, []⟩
def spc70 : PC := []
def r70_0c0 : RT := (.leaf (.int .u32 (.lit 29360275)))
theorem r70_0k0 : r70_0c0.ok 0 M70 spc70 = true := by kernel_rfl
def sm70 : Sm := ⟨[(false, [(.lit (.int .i64 (.lit 19)))]), (false, [(.lit (.int .i64 (.lit 1)))]), (false, [(.lit (.int .i64 (.lit 0)))]), (false, [(.lit (.int .i64 (.lit 0)))]), (false, [(.lit (.int .u32 (.lit 28)))])], false, r70_0c0⟩
theorem sv70 (G : Nat → Option Nat) (D : Hp) : SmValid Tryz.prog (GofSm G sm70) (DofSm D sm70) 7 sm70 := smValid0 (T := T70) (fuel := 2000) mixed hF (VT70 _ _) rfl r70_0k0
def T71 : List (Nat × List Sm) := []
theorem VT71 (G : Nat → Option Nat) (D : Hp) : AllV Tryz.prog G D T71 := trivial
noncomputable def M71 : TT (SV × SP) := evFnD (cfgT F (fun _ => none) hpE T71) 2000 7 (patAs 0 [(false, [(.lit (.int .i64 (.lit 19)))]), (false, [(.lit (.int .i64 (.lit 1)))]), (false, [(.lit (.int .i64 (.lit 0)))]), (false, [(.lit (.int .i64 (.lit 0)))]), (false, [(.lit (.int .u32 (.lit 29)))])]) ⟨hpE, []⟩
def spc71 : PC := []
def r71_0c0 : RT := (.leaf (.int .u32 (.lit 30408851)))
theorem r71_0k0 : r71_0c0.ok 0 M71 spc71 = true := by kernel_rfl
def sm71 : Sm := ⟨[(false, [(.lit (.int .i64 (.lit 19)))]), (false, [(.lit (.int .i64 (.lit 1)))]), (false, [(.lit (.int .i64 (.lit 0)))]), (false, [(.lit (.int .i64 (.lit 0)))]), (false, [(.lit (.int .u32 (.lit 29)))])], false, r71_0c0⟩
theorem sv71 (G : Nat → Option Nat) (D : Hp) : SmValid Tryz.prog (GofSm G sm71) (DofSm D sm71) 7 sm71 := smValid0 (T := T71) (fuel := 2000) mixed hF (VT71 _ _) rfl r71_0k0
def T72 : List (Nat × List Sm) := []
theorem VT72 (G : Nat → Option Nat) (D : Hp) : AllV Tryz.prog G D T72 := trivial
noncomputable def M72 : TT (SV × SP) := evFnD (cfgT F (fun _ => none) hpE T72) 2000 7 (patAs 0 [(false, [(.lit (.int .i64 (.lit 19)))]), (false, [(.lit (.int .i64 (.lit 1)))]), (false, [(.lit (.int .i64 (.lit 0)))]), (false, [(.lit (.int .i64 (.lit 0)))]), (false, [(.lit (.int .u32 (.lit 30)))])]) ⟨hpE, []⟩
def spc72 : PC := []
def r72_0c0 : RT := (.leaf (.int .u32 (.lit 31457427)))
theorem r72_0k0 : r72_0c0.ok 0 M72 spc72 = true := by kernel_rfl
def sm72 : Sm := ⟨[(false, [(.lit (.int .i64 (.lit 19)))]), (false, [(.lit (.int .i64 (.lit 1)))]), (false, [(.lit (.int .i64 (.lit 0)))]), (false, [(.lit (.int .i64 (.lit 0)))]), (false, [(.lit (.int .u32 (.lit 30)))])], false, r72_0c0⟩
theorem sv72 (G : Nat → Option Nat) (D : Hp) : SmValid Tryz.prog (GofSm G sm72) (DofSm D sm72) 7 sm72 := smValid0 (T := T72) (fuel := 2000) mixed hF (VT72 _ _) rfl r72_0k0
def T73 : List (Nat × List Sm) := []
theorem VT73 (G : Nat → Option Nat) (D : Hp) : AllV Tryz.prog G D T73 := trivial
noncomputable def M73 : TT (SV × SP) := evFnD (cfgT F (fun _ => none) hpE T73) 2000 86 (patAs 0 [(false, [(.lit (.int .u32 (.lit 0)))]), (false, [(.lit (.int .i64 (.lit 3)))]), (false, [(.lit (.int .u32 (.lit 0)))]), (false, [(.lit (.int .i64 (.lit 1)))]), (false, [(.lit (.int .i64 (.lit 128)))]), (false, [(.lit .nilSlice)])]) ⟨hpE, []⟩
def spc73 : PC := []
def r73_0c0 : RT := (.leaf (.agg [(.int .i64 (.lit 1)), (.int .u32 (.lit 0)), (.int .u32 (.lit 0)), (.int .u32 (.lit 0)), (.int .u32 (.lit 0))]))
theorem r73_0k0 : r73_0c0.ok 0 M73 spc73 = true := by kernel_rfl
def sm73 : Sm := ⟨[(false, [(.lit (.int .u32 (.lit 0)))]), (false, [(.lit (.int .i64 (.lit 3)))]), (false, [(.lit (.int .u32 (.lit 0)))]), (false, [(.lit (.int .i64 (.lit 1)))]), (false, [(.lit (.int .i64 (.lit 128)))]), (false, [(.lit .nilSlice)])], false, r73_0c0⟩
theorem sv73 (G : Nat → Option Nat) (D : Hp) : SmValid Tryz.prog (GofSm G sm73) (DofSm D sm73) 86 sm73 := smValid0 (T := T73) (fuel := 2000) mixed hF (VT73 _ _) rfl r73_0k0
def T74 : List (Nat × List Sm) := []
theorem VT74 (G : Nat → Option Nat) (D : Hp) : AllV Tryz.prog G D T74 := trivial
noncomputable def M74 : TT (SV × SP) := evFnD (cfgT F (fun _ => none) hpE T74) 2000 86 (patAs 0 [(false, [(.lit (.int .u32 (.lit 0)))]), (false, [(.lit (.int .i64 (.lit 3)))]), (false, [(.lit (.int .u32 (.lit 4)))]), (false, [(.lit (.int .i64 (.lit 1)))]), (false, [(.lit (.int .i64 (.lit 128)))]), (false, [(.lit .nilSlice)])]) ⟨hpE, []⟩
def spc74 : PC := []
def r74_0c0 : RT := (.leaf (.agg [(.int .i64 (.lit 1)), (.int .u32 (.lit 4)), (.int .u32 (.lit 0)), (.int .u32 (.lit 0)), (.int .u32 (.lit 0))]))
theorem r74_0k0 : r74_0c0.ok 0 M74 spc74 = true := by kernel_rfl
def sm74 : Sm := ⟨[(false, [(.lit (.int .u32 (.lit 0)))]), (false, [(.lit (.int .i64 (.lit 3)))]), (false, [(.lit (.int .u32 (.lit 4)))]), (false, [(.lit (.int .i64 (.lit 1)))]), (false, [(.lit (.int .i64 (.lit 128)))]), (false, [(.lit .nilSlice)])], false, r74_0c0⟩
theorem sv74 (G : Nat → Option Nat) (D : Hp) : SmValid Tryz.prog (GofSm G sm74) (DofSm D sm74) 86 sm74 := smValid0 (T := T74) (fuel := 2000) mixed hF (VT74 _ _) rfl r74_0k0
def T75 : List (Nat × List Sm) := []
theorem VT75 (G : Nat → Option Nat) (D : Hp) : AllV Tryz.prog G D T75 := trivial
noncomputable def M75 : TT (SV × SP) := evFnD (cfgT F (fun _ => none) hpE T75) 2000 86 (patAs 0 [(false, [(.lit (.int .u32 (.lit 0)))]), (false, [(.lit (.int .i64 (.lit 3)))]), (false, [(.lit (.int .u32 (.lit 64)))]), (false, [(.lit (.int .i64 (.lit 3)))]), (false, [(.lit (.int .i64 (.lit 128)))]), (false, [(.lit .nilSlice)])]) ⟨hpE, []⟩
def spc75 : PC := []
def r75_0c0 : RT := (.leaf (.agg [(.int .i64 (.lit 1)), (.int .u32 (.lit 64)), (.int .u32 (.lit 0)), (.int .u32 (.lit 0)), (.int .u32 (.lit 0))]))
theorem r75_0k0 : r75_0c0.ok 0 M75 spc75 = true := by kernel_rfl
def sm75 : Sm := ⟨[(false, [(.lit (.int .u32 (.lit 0)))]), (false, [(.lit (.int .i64 (.lit 3)))]), (false, [(.lit (.int .u32 (.lit 64)))]), (false, [(.lit (.int .i64 (.lit 3)))]), (false, [(.lit (.int .i64 (.lit 128)))]), (false, [(.lit .nilSlice)])], false, r75_0c0⟩
theorem sv75 (G : Nat → Option Nat) (D : Hp) : SmValid Tryz.prog (GofSm G sm75) (DofSm D sm75) 86 sm75 := smValid0 (T := T75) (fuel := 2000) mixed hF (VT75 _ _) rfl r75_0k0
def T76 : List (Nat × List Sm) := []
theorem VT76 (G : Nat → Option Nat) (D : Hp) : AllV Tryz.prog G D T76 := trivial
noncomputable def M76 : TT (SV × SP) := evFnD (cfgT F (fun _ => none) hpE T76) 2000 86 (patAs 0 [(false, [(.lit (.int .u32 (.lit 0)))]), (false, [(.lit (.int .i64 (.lit 3)))]), (false, [(.lit (.int .u32 (.lit 8)))]), (false, [(.lit (.int .i64 (.lit 1)))]), (false, [(.lit (.int .i64 (.lit 128)))]), (false, [(.lit .nilSlice)])]) ⟨hpE, []⟩
def spc76 : PC := []
def r76_0c0 : RT := (.leaf (.agg [(.int .i64 (.lit 1)), (.int .u32 (.lit 8)), (.int .u32 (.lit 0)), (.int .u32 (.lit 0)), (.int .u32 (.lit 0))]))
theorem r76_0k0 : r76_0c0.ok 0 M76 spc76 = true := by kernel_rfl
def sm76 : Sm := ⟨[(false, [(.lit (.int .u32 (.lit 0)))]), (false, [(.lit (.int .i64 (.lit 3)))]), (false, [(.lit (.int .u32 (.lit 8)))]), (false, [(.lit (.int .i64 (.lit 1)))]), (false, [(.lit (.int .i64 (.lit 128)))]), (false, [(.lit .nilSlice)])], false, r76_0c0⟩
theorem sv76 (G : Nat → Option Nat) (D : Hp) : SmValid Tryz.prog (GofSm G sm76) (DofSm D sm76) 86 sm76 := smValid0 (T := T76) (fuel := 2000) mixed hF (VT76 _ _) rfl r76_0k0
def T77 : List (Nat × List Sm) := []
theorem VT77 (G : Nat → Option Nat) (D : Hp) : AllV Tryz.prog G D T77 := trivial
noncomputable def M77 : TT (SV × SP) := evFnD (cfgT F (fun _ => none) hpE T77) 2000 86 (patAs 0 [(false, [(.lit (.int .u32 (.lit 0)))]), (false, [(.lit (.int .i64 (.lit 3)))]), (false, [(.lit (.int .u32 (.lit 12)))]), (false, [(.lit (.int .i64 (.lit 1)))]), (false, [(.lit (.int .i64 (.lit 128)))]), (false, [(.lit .nilSlice)])]) ⟨hpE, []⟩
def spc77 : PC := []
def r77_0c0 : RT := (.leaf (.agg [(.int .i64 (.lit 1)), (.int .u32 (.lit 12)), (.int .u32 (.lit 0)), (.int .u32 (.lit 0)), (.int .u32 (.lit 0))]))
theorem r77_0k0 : r77_0c0.ok 0 M77 spc77 = true := by kernel_rfl
def sm77 : Sm := ⟨[(false, [(.lit (.int .u32 (.lit 0)))]), (false, [(.lit (.int .i64 (.lit 3)))]), (false, [(.lit (.int .u32 (.lit 12)))]), (false, [(.lit (.int .i64 (.lit 1)))]), (false, [(.lit (.int .i64 (.lit 128)))]), (false, [(.lit .nilSlice)])], false, r77_0c0⟩
theorem sv77 (G : Nat → Option Nat) (D : Hp) : SmValid Tryz.prog (GofSm G sm77) (DofSm D sm77) 86 sm77 := smValid0 (T := T77) (fuel := 2000) mixed hF (VT77 _ _) rfl r77_0k0
def T78 : List (Nat × List Sm) := []
theorem VT78 (G : Nat → Option Nat) (D : Hp) : AllV Tryz.prog G D T78 := trivial
noncomputable def M78 : TT (SV × SP) := evFnD (cfgT F (fun _ => none) hpE T78) 2000 86 (patAs 0 [(false, [(.lit (.int .u32 (.lit 0)))]), (false, [(.lit (.int .i64 (.lit 3)))]), (false, [(.lit (.int .u32 (.lit 16)))]), (false, [(.lit (.int .i64 (.lit 1)))]), (false, [(.lit (.int .i64 (.lit 128)))]), (false, [(.lit .nilSlice)])]) ⟨hpE, []⟩
def spc78 : PC := []
def r78_0c0 : RT := (.leaf (.agg [(.int .i64 (.lit 1)), (.int .u32 (.lit 16)), (.int .u32 (.lit 0)), (.int .u32 (.lit 0)), (.int .u32 (.lit 0))]))
theorem r78_0k0 : r78_0c0.ok 0 M78 spc78 = true := by kernel_rfl
def sm78 : Sm := ⟨[(false, [(.lit (.int .u32 (.lit 0)))]), (false, [(.lit (.int .i64 (.lit 3)))]), (false, [(.lit (.int .u32 (.lit 16)))]), (false, [(.lit (.int .i64 (.lit 1)))]), (false, [(.lit (.int .i64 (.lit 128)))]), (false, [(.lit .nilSlice)])], false, r78_0c0⟩
theorem sv78 (G : Nat → Option Nat) (D : Hp) : SmValid Tryz.prog (GofSm G sm78) (DofSm D sm78) 86 sm78 := smValid0 (T := T78) (fuel := 2000) mixed hF (VT78 _ _) rfl r78_0k0
def T79 : List (Nat × List Sm) := []
theorem VT79 (G : Nat → Option Nat) (D : Hp) : AllV Tryz.prog G D T79 := trivial
noncomputable def M79 : TT (SV × SP) := evFnD (cfgT F (fun _ => none) hpE T79) 2000 86 (patAs 0 [(false, [(.lit (.int .u32 (.lit 0)))]), (false, [(.lit (.int .i64 (.lit 3)))]), (false, [(.lit (.int .u32 (.lit 96)))]), (false, [(.lit (.int .i64 (.lit 3)))]), (false, [(.lit (.int .i64 (.lit 128)))]), (false, [(.lit .nilSlice)])]) ⟨hpE, []⟩
def spc79 : PC := []
def r79_0c0 : RT := (.leaf (.agg [(.int .i64 (.lit 1)), (.int .u32 (.lit 96)), (.int .u32 (.lit 0)), (.int .u32 (.lit 0)), (.int .u32 (.lit 0))]))
theorem r79_0k0 : r79_0c0.ok 0 M79 spc79 = true := by kernel_rfl
def sm79 : Sm := ⟨[(false, [(.lit (.int .u32 (.lit 0)))]), (false, [(.lit (.int .i64 (.lit 3)))]), (false, [(.lit (.int .u32 (.lit 96)))]), (false, [(.lit (.int .i64 (.lit 3)))]), (false, [(.lit (.int .i64 (.lit 128)))]), (false, [(.lit .nilSlice)])], false, r79_0c0⟩
theorem sv79 (G : Nat → Option Nat) (D : Hp) : SmValid Tryz.prog (GofSm G sm79) (DofSm D sm79) 86 sm79 := smValid0 (T := T79) (fuel := 2000) mixed hF (VT79 _ _) rfl r79_0k0
def T80 : List (Nat × List Sm) := []
theorem VT80 (G : Nat → Option Nat) (D : Hp) : AllV Tryz.prog G D T80 := trivial
noncomputable def M80 : TT (SV × SP) := evFnD (cfgT F (fun _ => none) hpE T80) 2000 95 (patAs 0 [(false, [(.lit (.int .i64 (.lit 18)))])]) ⟨hpE, []⟩
def spc80 : PC := []
def r80_0c0 : RT := (.leaf (.int .i64 (.lit 4)))
theorem r80_0k0 : r80_0c0.ok 0 M80 spc80 = true := by kernel_rfl
def sm80 : Sm := ⟨[(false, [(.lit (.int .i64 (.lit 18)))])], false, r80_0c0⟩
theorem sv80 (G : Nat → Option Nat) (D : Hp) : SmValid Tryz.prog (GofSm G sm80) (DofSm D sm80) 95 sm80 := smValid0 (T := T80) (fuel := 2000) mixed hF (VT80 _ _) rfl r80_0k0
def T81 : List (Nat × List Sm) := []
theorem VT81 (G : Nat → Option Nat) (D : Hp) : AllV Tryz.prog G D T81 := trivial
noncomputable def M81 : TT (SV × SP) := evFnD (cfgT F (fun _ => none) hpE T81) 2000 56 (patAs 0 [(false, [(.pat .u32 .u32 (.bin .or .u32 (.bin .or .u32 (.lit 33171) (.bin .shl .u32 (.bin .or .u32 (.bin .shl .u32 (.bin .and .u32 (.var 0) (.lit 15)) (.lit 4)) (.lit 1)) (.lit 16))) (.bin .shl .u32 (.bin .and .u32 (.bin .shr .u32 (.var 0) (.lit 4)) (.lit 63)) (.lit 24))))])]) ⟨hpE, []⟩
def spc81 : PC := []
def r81_0c0 : RT := (.leaf (.tuple [(.agg [(.int .i64 (.lit 19)), (.int .i64 (.lit 3)), (.int .i64 (.bin .or .u32 (.lit 1) (.bin .shl .u32 (.lit 1) (.lit 1)))), (.int .i64 (.lit 0)), (.int .i64 (.lit 0)), (.int .u32 (.bin .and .u32 (.cv .u32 (.var 0)) (.lit 1023))), (.bool (.lit false)), (.bool (.lit false))]), (.bool (.lit true))]))
theorem r81_0k0 : r81_0c0.ok 0 M81 spc81 = true := by kernel_rfl
def sm81 : Sm := ⟨[(false, [(.pat .u32 .u32 (.bin .or .u32 (.bin .or .u32 (.lit 33171) (.bin .shl .u32 (.bin .or .u32 (.bin .shl .u32 (.bin .and .u32 (.var 0) (.lit 15)) (.lit 4)) (.lit 1)) (.lit 16))) (.bin .shl .u32 (.bin .and .u32 (.bin .shr .u32 (.var 0) (.lit 4)) (.lit 63)) (.lit 24))))])], false, r81_0c0⟩
theorem sv81 (G : Nat → Option Nat) (D : Hp) : SmValid Tryz.prog (GofSm G sm81) (DofSm D sm81) 56 sm81 := smValid0 (T := T81) (fuel := 2000) mixed hF (VT81 _ _) rfl r81_0k0
def TL : List (Nat × List Sm) := [(56, [sm3, sm4, sm5, sm6, sm7, sm8, sm9, sm10, sm11, sm12, sm13, sm14, sm15, sm16, sm17, sm18, sm19, sm20, sm21, sm22, sm23, sm24, sm25, sm26, sm27, sm28, sm29, sm30, sm31, sm32, sm33, sm34, sm35, sm36, sm37, sm81]), (95, [sm80]), (86, [sm73, sm74, sm75, sm76, sm77, sm78, sm79]), (7, [sm38, sm39, sm40, sm41, sm42, sm43, sm44, sm45, sm46, sm47, sm48, sm49, sm50, sm51, sm52, sm53, sm54, sm55, sm56, sm57, sm58, sm59, sm60, sm61, sm62, sm63, sm64, sm65, sm66, sm67, sm68, sm69, sm70, sm71, sm72]), (78, [sm0, sm1, sm2])]
theorem VTL : AllV Tryz.prog G doorH TL := ⟨fun sm h => by
  simp only [List.mem_cons, List.not_mem_nil, or_false] at h
  rcases h with rfl | rfl | rfl | rfl | rfl | rfl | rfl | rfl | rfl | rfl | rfl | rfl | rfl | rfl | rfl | rfl | rfl | rfl | rfl | rfl | rfl | rfl | rfl | rfl | rfl | rfl | rfl | rfl | rfl | rfl | rfl | rfl | rfl | rfl | rfl | rfl
  · exact sv3 G doorH
  · exact sv4 G doorH
  · exact sv5 G doorH
  · exact sv6 G doorH
  · exact sv7 G doorH
  · exact sv8 G doorH
  · exact sv9 G doorH
  · exact sv10 G doorH
  · exact sv11 G doorH
  · exact sv12 G doorH
  · exact sv13 G doorH
  · exact sv14 G doorH
  · exact sv15 G doorH
  · exact sv16 G doorH
  · exact sv17 G doorH
  · exact sv18 G doorH
  · exact sv19 G doorH
  · exact sv20 G doorH
  · exact sv21 G doorH
  · exact sv22 G doorH
  · exact sv23 G doorH
  · exact sv24 G doorH
  · exact sv25 G doorH
  · exact sv26 G doorH
  · exact sv27 G doorH
  · exact sv28 G doorH
  · exact sv29 G doorH
  · exact sv30 G doorH
  · exact sv31 G doorH
  · exact sv32 G doorH
  · exact sv33 G doorH
  · exact sv34 G doorH
  · exact sv35 G doorH
  · exact sv36 G doorH
  · exact sv37 G doorH
  · exact sv81 G doorH, ⟨fun sm h => by
  simp only [List.mem_cons, List.not_mem_nil, or_false] at h
  rcases h with rfl
  · exact sv80 G doorH, ⟨fun sm h => by
  simp only [List.mem_cons, List.not_mem_nil, or_false] at h
  rcases h with rfl | rfl | rfl | rfl | rfl | rfl | rfl
  · exact sv73 G doorH
  · exact sv74 G doorH
  · exact sv75 G doorH
  · exact sv76 G doorH
  · exact sv77 G doorH
  · exact sv78 G doorH
  · exact sv79 G doorH, ⟨fun sm h => by
  simp only [List.mem_cons, List.not_mem_nil, or_false] at h
  rcases h with rfl | rfl | rfl | rfl | rfl | rfl | rfl | rfl | rfl | rfl | rfl | rfl | rfl | rfl | rfl | rfl | rfl | rfl | rfl | rfl | rfl | rfl | rfl | rfl | rfl | rfl | rfl | rfl | rfl | rfl | rfl | rfl | rfl | rfl | rfl
  · exact sv38 G doorH
  · exact sv39 G doorH
  · exact sv40 G doorH
  · exact sv41 G doorH
  · exact sv42 G doorH
  · exact sv43 G doorH
  · exact sv44 G doorH
  · exact sv45 G doorH
  · exact sv46 G doorH
  · exact sv47 G doorH
  · exact sv48 G doorH
  · exact sv49 G doorH
  · exact sv50 G doorH
  · exact sv51 G doorH
  · exact sv52 G doorH
  · exact sv53 G doorH
  · exact sv54 G doorH
  · exact sv55 G doorH
  · exact sv56 G doorH
  · exact sv57 G doorH
  · exact sv58 G doorH
  · exact sv59 G doorH
  · exact sv60 G doorH
  · exact sv61 G doorH
  · exact sv62 G doorH
  · exact sv63 G doorH
  · exact sv64 G doorH
  · exact sv65 G doorH
  · exact sv66 G doorH
  · exact sv67 G doorH
  · exact sv68 G doorH
  · exact sv69 G doorH
  · exact sv70 G doorH
  · exact sv71 G doorH
  · exact sv72 G doorH, ⟨fun sm h => by
  simp only [List.mem_cons, List.not_mem_nil, or_false] at h
  rcases h with rfl | rfl | rfl
  · exact sv0 G doorH
  · exact sv1 G doorH
  · exact sv2 G doorH, trivial⟩⟩⟩⟩⟩
noncomputable def CL : Cfg := cfgT F G doorH TL
end Go.Proofs.YtlgfmmccnilkmaaGreatDoor.seqSums

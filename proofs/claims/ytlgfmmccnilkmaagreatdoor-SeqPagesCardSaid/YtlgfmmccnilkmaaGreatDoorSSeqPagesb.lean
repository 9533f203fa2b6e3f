/- Summaries of functions that SeqPages comes to, held against their runs. No condition. -/
import Derived.Test.YtlgfmmccnilkmaaGreatDoorFSeqPages
namespace Go.Proofs.YtlgfmmccnilkmaaGreatDoor.seqPages
open Go.Sx
set_option linter.unusedVariables false
set_option linter.unusedSimpArgs false
set_option maxRecDepth 1000000
def T20 : List (Nat × List Sm) := []
theorem VT20 (G : Nat → Option Nat) (D : Hp) : AllV Tryz.prog G D T20 := trivial
noncomputable def M20 : TT (SV × SP) := evFnD (cfgT F (fun _ => none) hpE T20) 2000 7 (patAs 0 [(false, [(.lit (.int .i64 (.lit 13)))]), (false, [(.lit (.int .i64 (.lit 3)))]), (false, [(.lit (.int .i64 (.lit 2)))]), (false, [(.lit (.int .i64 (.lit 0)))]), (false, [(.lit (.int .u32 (.lit 0)))])]) ⟨hpE, []⟩
def spc20 : PC := []
def r20_0c0 : RT := (.leaf (.int .u32 (.lit 74115)))
theorem r20_0k0 : r20_0c0.ok 0 M20 spc20 = true := by kernel_rfl
def sm20 : Sm := ⟨[(false, [(.lit (.int .i64 (.lit 13)))]), (false, [(.lit (.int .i64 (.lit 3)))]), (false, [(.lit (.int .i64 (.lit 2)))]), (false, [(.lit (.int .i64 (.lit 0)))]), (false, [(.lit (.int .u32 (.lit 0)))])], false, r20_0c0⟩
theorem sv20 (G : Nat → Option Nat) (D : Hp) : SmValid Tryz.prog (GofSm G sm20) (DofSm D sm20) 7 sm20 := smValid0 (T := T20) (fuel := 2000) mixed hF (VT20 _ _) rfl r20_0k0
def T21 : List (Nat × List Sm) := []
theorem VT21 (G : Nat → Option Nat) (D : Hp) : AllV Tryz.prog G D T21 := trivial
noncomputable def M21 : TT (SV × SP) := evFnD (cfgT F (fun _ => none) hpE T21) 2000 7 (patAs 0 [(false, [(.lit (.int .i64 (.lit 1)))]), (false, [(.lit (.int .i64 (.lit 1)))]), (false, [(.lit (.int .i64 (.lit 0)))]), (false, [(.lit (.int .i64 (.lit 0)))]), (false, [(.lit (.int .u32 (.lit 2147483648)))])]) ⟨hpE, []⟩
def spc21 : PC := []
def r21_0c0 : RT := (.leaf (.int .u32 (.lit 2147483831)))
theorem r21_0k0 : r21_0c0.ok 0 M21 spc21 = true := by kernel_rfl
def sm21 : Sm := ⟨[(false, [(.lit (.int .i64 (.lit 1)))]), (false, [(.lit (.int .i64 (.lit 1)))]), (false, [(.lit (.int .i64 (.lit 0)))]), (false, [(.lit (.int .i64 (.lit 0)))]), (false, [(.lit (.int .u32 (.lit 2147483648)))])], false, r21_0c0⟩
theorem sv21 (G : Nat → Option Nat) (D : Hp) : SmValid Tryz.prog (GofSm G sm21) (DofSm D sm21) 7 sm21 := smValid0 (T := T21) (fuel := 2000) mixed hF (VT21 _ _) rfl r21_0k0
def T22 : List (Nat × List Sm) := []
theorem VT22 (G : Nat → Option Nat) (D : Hp) : AllV Tryz.prog G D T22 := trivial
noncomputable def M22 : TT (SV × SP) := evFnD (cfgT F (fun _ => none) hpE T22) 2000 7 (patAs 0 [(false, [(.lit (.int .i64 (.lit 19)))]), (false, [(.lit (.int .i64 (.lit 1)))]), (false, [(.lit (.int .i64 (.lit 1)))]), (false, [(.lit (.int .i64 (.lit 0)))]), (false, [(.lit (.int .u32 (.lit 2)))])]) ⟨hpE, []⟩
def spc22 : PC := []
def r22_0c0 : RT := (.leaf (.int .u32 (.lit 2130067)))
theorem r22_0k0 : r22_0c0.ok 0 M22 spc22 = true := by kernel_rfl
def sm22 : Sm := ⟨[(false, [(.lit (.int .i64 (.lit 19)))]), (false, [(.lit (.int .i64 (.lit 1)))]), (false, [(.lit (.int .i64 (.lit 1)))]), (false, [(.lit (.int .i64 (.lit 0)))]), (false, [(.lit (.int .u32 (.lit 2)))])], false, r22_0c0⟩
theorem sv22 (G : Nat → Option Nat) (D : Hp) : SmValid Tryz.prog (GofSm G sm22) (DofSm D sm22) 7 sm22 := smValid0 (T := T22) (fuel := 2000) mixed hF (VT22 _ _) rfl r22_0k0
def T23 : List (Nat × List Sm) := []
theorem VT23 (G : Nat → Option Nat) (D : Hp) : AllV Tryz.prog G D T23 := trivial
noncomputable def M23 : TT (SV × SP) := evFnD (cfgT F (fun _ => none) hpE T23) 2000 7 (patAs 0 [(false, [(.lit (.int .i64 (.lit 19)))]), (false, [(.lit (.int .i64 (.lit 1)))]), (false, [(.lit (.int .i64 (.lit 0)))]), (false, [(.lit (.int .i64 (.lit 0)))]), (false, [(.lit (.int .u32 (.lit 64)))])]) ⟨hpE, []⟩
def spc23 : PC := []
def r23_0c0 : RT := (.leaf (.int .u32 (.lit 67109011)))
theorem r23_0k0 : r23_0c0.ok 0 M23 spc23 = true := by kernel_rfl
def sm23 : Sm := ⟨[(false, [(.lit (.int .i64 (.lit 19)))]), (false, [(.lit (.int .i64 (.lit 1)))]), (false, [(.lit (.int .i64 (.lit 0)))]), (false, [(.lit (.int .i64 (.lit 0)))]), (false, [(.lit (.int .u32 (.lit 64)))])], false, r23_0c0⟩
theorem sv23 (G : Nat → Option Nat) (D : Hp) : SmValid Tryz.prog (GofSm G sm23) (DofSm D sm23) 7 sm23 := smValid0 (T := T23) (fuel := 2000) mixed hF (VT23 _ _) rfl r23_0k0
def T24 : List (Nat × List Sm) := []
theorem VT24 (G : Nat → Option Nat) (D : Hp) : AllV Tryz.prog G D T24 := trivial
noncomputable def M24 : TT (SV × SP) := evFnD (cfgT F (fun _ => none) hpE T24) 2000 7 (patAs 0 [(false, [(.lit (.int .i64 (.lit 42)))]), (false, [(.lit (.int .i64 (.lit 0)))]), (false, [(.lit (.int .i64 (.lit 0)))]), (false, [(.lit (.int .i64 (.lit 0)))]), (false, [(.lit (.int .u32 (.lit 0)))])]) ⟨hpE, []⟩
def spc24 : PC := []
def r24_0c0 : RT := (.leaf (.int .u32 (.lit 807403635)))
theorem r24_0k0 : r24_0c0.ok 0 M24 spc24 = true := by kernel_rfl
def sm24 : Sm := ⟨[(false, [(.lit (.int .i64 (.lit 42)))]), (false, [(.lit (.int .i64 (.lit 0)))]), (false, [(.lit (.int .i64 (.lit 0)))]), (false, [(.lit (.int .i64 (.lit 0)))]), (false, [(.lit (.int .u32 (.lit 0)))])], false, r24_0c0⟩
theorem sv24 (G : Nat → Option Nat) (D : Hp) : SmValid Tryz.prog (GofSm G sm24) (DofSm D sm24) 7 sm24 := smValid0 (T := T24) (fuel := 2000) mixed hF (VT24 _ _) rfl r24_0k0
def T25 : List (Nat × List Sm) := []
theorem VT25 (G : Nat → Option Nat) (D : Hp) : AllV Tryz.prog G D T25 := trivial
noncomputable def M25 : TT (SV × SP) := evFnD (cfgT F (fun _ => none) hpE T25) 2000 7 (patAs 0 [(false, [(.lit (.int .i64 (.lit 1)))]), (false, [(.lit (.int .i64 (.lit 2)))]), (false, [(.lit (.int .i64 (.lit 0)))]), (false, [(.lit (.int .i64 (.lit 0)))]), (false, [(.lit (.int .u32 (.lit 4096)))])]) ⟨hpE, []⟩
def spc25 : PC := []
def r25_0c0 : RT := (.leaf (.int .u32 (.lit 4407)))
theorem r25_0k0 : r25_0c0.ok 0 M25 spc25 = true := by kernel_rfl
def sm25 : Sm := ⟨[(false, [(.lit (.int .i64 (.lit 1)))]), (false, [(.lit (.int .i64 (.lit 2)))]), (false, [(.lit (.int .i64 (.lit 0)))]), (false, [(.lit (.int .i64 (.lit 0)))]), (false, [(.lit (.int .u32 (.lit 4096)))])], false, r25_0c0⟩
theorem sv25 (G : Nat → Option Nat) (D : Hp) : SmValid Tryz.prog (GofSm G sm25) (DofSm D sm25) 7 sm25 := smValid0 (T := T25) (fuel := 2000) mixed hF (VT25 _ _) rfl r25_0k0
def T26 : List (Nat × List Sm) := []
theorem VT26 (G : Nat → Option Nat) (D : Hp) : AllV Tryz.prog G D T26 := trivial
noncomputable def M26 : TT (SV × SP) := evFnD (cfgT F (fun _ => none) hpE T26) 2000 7 (patAs 0 [(false, [(.lit (.int .i64 (.lit 40)))]), (false, [(.lit (.int .i64 (.lit 0)))]), (false, [(.lit (.int .i64 (.lit 0)))]), (false, [(.lit (.int .i64 (.lit 0)))]), (false, [(.lit (.int .u32 (.lit 0)))])]) ⟨hpE, []⟩
def spc26 : PC := []
def r26_0c0 : RT := (.leaf (.int .u32 (.lit 115)))
theorem r26_0k0 : r26_0c0.ok 0 M26 spc26 = true := by kernel_rfl
def sm26 : Sm := ⟨[(false, [(.lit (.int .i64 (.lit 40)))]), (false, [(.lit (.int .i64 (.lit 0)))]), (false, [(.lit (.int .i64 (.lit 0)))]), (false, [(.lit (.int .i64 (.lit 0)))]), (false, [(.lit (.int .u32 (.lit 0)))])], false, r26_0c0⟩
theorem sv26 (G : Nat → Option Nat) (D : Hp) : SmValid Tryz.prog (GofSm G sm26) (DofSm D sm26) 7 sm26 := smValid0 (T := T26) (fuel := 2000) mixed hF (VT26 _ _) rfl r26_0k0
def T27 : List (Nat × List Sm) := []
theorem VT27 (G : Nat → Option Nat) (D : Hp) : AllV Tryz.prog G D T27 := trivial
noncomputable def M27 : TT (SV × SP) := evFnD (cfgT F (fun _ => none) hpE T27) 2000 7 (patAs 0 [(false, [(.lit (.int .i64 (.lit 13)))]), (false, [(.lit (.int .i64 (.lit 3)))]), (false, [(.lit (.int .i64 (.lit 2)))]), (false, [(.lit (.int .i64 (.lit 0)))]), (false, [(.lit (.int .u32 (.lit 4)))])]) ⟨hpE, []⟩
def spc27 : PC := []
def r27_0c0 : RT := (.leaf (.int .u32 (.lit 4268419)))
theorem r27_0k0 : r27_0c0.ok 0 M27 spc27 = true := by kernel_rfl
def sm27 : Sm := ⟨[(false, [(.lit (.int .i64 (.lit 13)))]), (false, [(.lit (.int .i64 (.lit 3)))]), (false, [(.lit (.int .i64 (.lit 2)))]), (false, [(.lit (.int .i64 (.lit 0)))]), (false, [(.lit (.int .u32 (.lit 4)))])], false, r27_0c0⟩
theorem sv27 (G : Nat → Option Nat) (D : Hp) : SmValid Tryz.prog (GofSm G sm27) (DofSm D sm27) 7 sm27 := smValid0 (T := T27) (fuel := 2000) mixed hF (VT27 _ _) rfl r27_0k0
def T28 : List (Nat × List Sm) := []
theorem VT28 (G : Nat → Option Nat) (D : Hp) : AllV Tryz.prog G D T28 := trivial
noncomputable def M28 : TT (SV × SP) := evFnD (cfgT F (fun _ => none) hpE T28) 2000 7 (patAs 0 [(false, [(.lit (.int .i64 (.lit 18)))]), (false, [(.lit (.int .i64 (.lit 0)))]), (false, [(.lit (.int .i64 (.lit 2)))]), (false, [(.lit (.int .i64 (.lit 1)))]), (false, [(.lit (.int .u32 (.lit 4)))])]) ⟨hpE, []⟩
def spc28 : PC := []
def r28_0c0 : RT := (.leaf (.int .u32 (.lit 1122851)))
theorem r28_0k0 : r28_0c0.ok 0 M28 spc28 = true := by kernel_rfl
def sm28 : Sm := ⟨[(false, [(.lit (.int .i64 (.lit 18)))]), (false, [(.lit (.int .i64 (.lit 0)))]), (false, [(.lit (.int .i64 (.lit 2)))]), (false, [(.lit (.int .i64 (.lit 1)))]), (false, [(.lit (.int .u32 (.lit 4)))])], false, r28_0c0⟩
theorem sv28 (G : Nat → Option Nat) (D : Hp) : SmValid Tryz.prog (GofSm G sm28) (DofSm D sm28) 7 sm28 := smValid0 (T := T28) (fuel := 2000) mixed hF (VT28 _ _) rfl r28_0k0
def T29 : List (Nat × List Sm) := []
theorem VT29 (G : Nat → Option Nat) (D : Hp) : AllV Tryz.prog G D T29 := trivial
noncomputable def M29 : TT (SV × SP) := evFnD (cfgT F (fun _ => none) hpE T29) 2000 15 (patAs 0 [(false, [(.lit (.int .i64 (.lit 45)))]), (false, [(.lit (.int .i64 (.lit 0)))]), (false, [(.lit (.int .i64 (.lit 384)))]), (false, [(.lit (.int .i64 (.lit 1)))]), (false, [(.lit (.int .u32 (.lit 0)))])]) ⟨hpE, []⟩
def spc29 : PC := []
def r29_0c0 : RT := (.leaf (.int .u32 (.lit 402690163)))
theorem r29_0k0 : r29_0c0.ok 0 M29 spc29 = true := by kernel_rfl
def sm29 : Sm := ⟨[(false, [(.lit (.int .i64 (.lit 45)))]), (false, [(.lit (.int .i64 (.lit 0)))]), (false, [(.lit (.int .i64 (.lit 384)))]), (false, [(.lit (.int .i64 (.lit 1)))]), (false, [(.lit (.int .u32 (.lit 0)))])], false, r29_0c0⟩
theorem sv29 (G : Nat → Option Nat) (D : Hp) : SmValid Tryz.prog (GofSm G sm29) (DofSm D sm29) 15 sm29 := smValid0 (T := T29) (fuel := 2000) mixed hF (VT29 _ _) rfl r29_0k0
def T30 : List (Nat × List Sm) := []
theorem VT30 (G : Nat → Option Nat) (D : Hp) : AllV Tryz.prog G D T30 := trivial
noncomputable def M30 : TT (SV × SP) := evFnD (cfgT F (fun _ => none) hpE T30) 2000 15 (patAs 0 [(false, [(.lit (.int .i64 (.lit 45)))]), (false, [(.lit (.int .i64 (.lit 0)))]), (false, [(.lit (.int .i64 (.lit 833)))]), (false, [(.lit (.int .i64 (.lit 1)))]), (false, [(.lit (.int .u32 (.lit 0)))])]) ⟨hpE, []⟩
def spc30 : PC := []
def r30_0c0 : RT := (.leaf (.int .u32 (.lit 873500787)))
theorem r30_0k0 : r30_0c0.ok 0 M30 spc30 = true := by kernel_rfl
def sm30 : Sm := ⟨[(false, [(.lit (.int .i64 (.lit 45)))]), (false, [(.lit (.int .i64 (.lit 0)))]), (false, [(.lit (.int .i64 (.lit 833)))]), (false, [(.lit (.int .i64 (.lit 1)))]), (false, [(.lit (.int .u32 (.lit 0)))])], false, r30_0c0⟩
theorem sv30 (G : Nat → Option Nat) (D : Hp) : SmValid Tryz.prog (GofSm G sm30) (DofSm D sm30) 15 sm30 := smValid0 (T := T30) (fuel := 2000) mixed hF (VT30 _ _) rfl r30_0k0
def T31 : List (Nat × List Sm) := []
theorem VT31 (G : Nat → Option Nat) (D : Hp) : AllV Tryz.prog G D T31 := trivial
noncomputable def M31 : TT (SV × SP) := evFnD (cfgT F (fun _ => none) hpE T31) 2000 86 (patAs 0 [(false, [(.lit (.int .u32 (.lit 0)))]), (false, [(.lit (.int .i64 (.lit 3)))]), (false, [(.lit (.int .u32 (.lit 0)))]), (false, [(.lit (.int .i64 (.lit 1)))]), (false, [(.lit (.int .i64 (.lit 128)))]), (false, [(.lit .nilSlice)])]) ⟨hpE, []⟩
def spc31 : PC := []
def r31_0c0 : RT := (.leaf (.agg [(.int .i64 (.lit 1)), (.int .u32 (.lit 0)), (.int .u32 (.lit 0)), (.int .u32 (.lit 0)), (.int .u32 (.lit 0))]))
theorem r31_0k0 : r31_0c0.ok 0 M31 spc31 = true := by kernel_rfl
def sm31 : Sm := ⟨[(false, [(.lit (.int .u32 (.lit 0)))]), (false, [(.lit (.int .i64 (.lit 3)))]), (false, [(.lit (.int .u32 (.lit 0)))]), (false, [(.lit (.int .i64 (.lit 1)))]), (false, [(.lit (.int .i64 (.lit 128)))]), (false, [(.lit .nilSlice)])], false, r31_0c0⟩
theorem sv31 (G : Nat → Option Nat) (D : Hp) : SmValid Tryz.prog (GofSm G sm31) (DofSm D sm31) 86 sm31 := smValid0 (T := T31) (fuel := 2000) mixed hF (VT31 _ _) rfl r31_0k0
def T32 : List (Nat × List Sm) := []
theorem VT32 (G : Nat → Option Nat) (D : Hp) : AllV Tryz.prog G D T32 := trivial
noncomputable def M32 : TT (SV × SP) := evFnD (cfgT F (fun _ => none) hpE T32) 2000 86 (patAs 0 [(false, [(.lit (.int .u32 (.lit 0)))]), (false, [(.lit (.int .i64 (.lit 3)))]), (false, [(.lit (.int .u32 (.lit 4)))]), (false, [(.lit (.int .i64 (.lit 1)))]), (false, [(.lit (.int .i64 (.lit 128)))]), (false, [(.lit .nilSlice)])]) ⟨hpE, []⟩
def spc32 : PC := []
def r32_0c0 : RT := (.leaf (.agg [(.int .i64 (.lit 1)), (.int .u32 (.lit 4)), (.int .u32 (.lit 0)), (.int .u32 (.lit 0)), (.int .u32 (.lit 0))]))
theorem r32_0k0 : r32_0c0.ok 0 M32 spc32 = true := by kernel_rfl
def sm32 : Sm := ⟨[(false, [(.lit (.int .u32 (.lit 0)))]), (false, [(.lit (.int .i64 (.lit 3)))]), (false, [(.lit (.int .u32 (.lit 4)))]), (false, [(.lit (.int .i64 (.lit 1)))]), (false, [(.lit (.int .i64 (.lit 128)))]), (false, [(.lit .nilSlice)])], false, r32_0c0⟩
theorem sv32 (G : Nat → Option Nat) (D : Hp) : SmValid Tryz.prog (GofSm G sm32) (DofSm D sm32) 86 sm32 := smValid0 (T := T32) (fuel := 2000) mixed hF (VT32 _ _) rfl r32_0k0
def T33 : List (Nat × List Sm) := []
theorem VT33 (G : Nat → Option Nat) (D : Hp) : AllV Tryz.prog G D T33 := trivial
noncomputable def M33 : TT (SV × SP) := evFnD (cfgT F (fun _ => none) hpE T33) 2000 86 (patAs 0 [(false, [(.lit (.int .u32 (.lit 0)))]), (false, [(.lit (.int .i64 (.lit 3)))]), (false, [(.lit (.int .u32 (.lit 64)))]), (false, [(.lit (.int .i64 (.lit 3)))]), (false, [(.lit (.int .i64 (.lit 128)))]), (false, [(.lit .nilSlice)])]) ⟨hpE, []⟩
def spc33 : PC := []
def r33_0c0 : RT := (.leaf (.agg [(.int .i64 (.lit 1)), (.int .u32 (.lit 64)), (.int .u32 (.lit 0)), (.int .u32 (.lit 0)), (.int .u32 (.lit 0))]))
theorem r33_0k0 : r33_0c0.ok 0 M33 spc33 = true := by kernel_rfl
def sm33 : Sm := ⟨[(false, [(.lit (.int .u32 (.lit 0)))]), (false, [(.lit (.int .i64 (.lit 3)))]), (false, [(.lit (.int .u32 (.lit 64)))]), (false, [(.lit (.int .i64 (.lit 3)))]), (false, [(.lit (.int .i64 (.lit 128)))]), (false, [(.lit .nilSlice)])], false, r33_0c0⟩
theorem sv33 (G : Nat → Option Nat) (D : Hp) : SmValid Tryz.prog (GofSm G sm33) (DofSm D sm33) 86 sm33 := smValid0 (T := T33) (fuel := 2000) mixed hF (VT33 _ _) rfl r33_0k0
def T34 : List (Nat × List Sm) := []
theorem VT34 (G : Nat → Option Nat) (D : Hp) : AllV Tryz.prog G D T34 := trivial
noncomputable def M34 : TT (SV × SP) := evFnD (cfgT F (fun _ => none) hpE T34) 2000 86 (patAs 0 [(false, [(.lit (.int .u32 (.lit 0)))]), (false, [(.lit (.int .i64 (.lit 3)))]), (false, [(.lit (.int .u32 (.lit 0)))]), (false, [(.lit (.int .i64 (.lit 1)))]), (false, [(.lit (.int .i64 (.lit 12288)))]), (false, [(.lit .nilSlice)])]) ⟨hpE, []⟩
def spc34 : PC := []
def r34_0c0 : RT := (.leaf (.agg [(.int .i64 (.lit 1)), (.int .u32 (.lit 0)), (.int .u32 (.lit 0)), (.int .u32 (.lit 0)), (.int .u32 (.lit 0))]))
theorem r34_0k0 : r34_0c0.ok 0 M34 spc34 = true := by kernel_rfl
def sm34 : Sm := ⟨[(false, [(.lit (.int .u32 (.lit 0)))]), (false, [(.lit (.int .i64 (.lit 3)))]), (false, [(.lit (.int .u32 (.lit 0)))]), (false, [(.lit (.int .i64 (.lit 1)))]), (false, [(.lit (.int .i64 (.lit 12288)))]), (false, [(.lit .nilSlice)])], false, r34_0c0⟩
theorem sv34 (G : Nat → Option Nat) (D : Hp) : SmValid Tryz.prog (GofSm G sm34) (DofSm D sm34) 86 sm34 := smValid0 (T := T34) (fuel := 2000) mixed hF (VT34 _ _) rfl r34_0k0
def T35 : List (Nat × List Sm) := []
theorem VT35 (G : Nat → Option Nat) (D : Hp) : AllV Tryz.prog G D T35 := trivial
noncomputable def M35 : TT (SV × SP) := evFnD (cfgT F (fun _ => none) hpE T35) 2000 86 (patAs 0 [(false, [(.lit (.int .u32 (.lit 0)))]), (false, [(.lit (.int .i64 (.lit 3)))]), (false, [(.lit (.int .u32 (.lit 4)))]), (false, [(.lit (.int .i64 (.lit 1)))]), (false, [(.lit (.int .i64 (.lit 12288)))]), (false, [(.lit .nilSlice)])]) ⟨hpE, []⟩
def spc35 : PC := []
def r35_0c0 : RT := (.leaf (.agg [(.int .i64 (.lit 1)), (.int .u32 (.lit 4)), (.int .u32 (.lit 0)), (.int .u32 (.lit 0)), (.int .u32 (.lit 0))]))
theorem r35_0k0 : r35_0c0.ok 0 M35 spc35 = true := by kernel_rfl
def sm35 : Sm := ⟨[(false, [(.lit (.int .u32 (.lit 0)))]), (false, [(.lit (.int .i64 (.lit 3)))]), (false, [(.lit (.int .u32 (.lit 4)))]), (false, [(.lit (.int .i64 (.lit 1)))]), (false, [(.lit (.int .i64 (.lit 12288)))]), (false, [(.lit .nilSlice)])], false, r35_0c0⟩
theorem sv35 (G : Nat → Option Nat) (D : Hp) : SmValid Tryz.prog (GofSm G sm35) (DofSm D sm35) 86 sm35 := smValid0 (T := T35) (fuel := 2000) mixed hF (VT35 _ _) rfl r35_0k0
def T36 : List (Nat × List Sm) := []
theorem VT36 (G : Nat → Option Nat) (D : Hp) : AllV Tryz.prog G D T36 := trivial
noncomputable def M36 : TT (SV × SP) := evFnD (cfgT F (fun _ => none) hpE T36) 2000 86 (patAs 0 [(false, [(.lit (.int .u32 (.lit 0)))]), (false, [(.lit (.int .i64 (.lit 3)))]), (false, [(.lit (.int .u32 (.lit 8)))]), (false, [(.lit (.int .i64 (.lit 1)))]), (false, [(.lit (.int .i64 (.lit 12288)))]), (false, [(.lit .nilSlice)])]) ⟨hpE, []⟩
def spc36 : PC := []
def r36_0c0 : RT := (.leaf (.agg [(.int .i64 (.lit 1)), (.int .u32 (.lit 8)), (.int .u32 (.lit 0)), (.int .u32 (.lit 0)), (.int .u32 (.lit 0))]))
theorem r36_0k0 : r36_0c0.ok 0 M36 spc36 = true := by kernel_rfl
def sm36 : Sm := ⟨[(false, [(.lit (.int .u32 (.lit 0)))]), (false, [(.lit (.int .i64 (.lit 3)))]), (false, [(.lit (.int .u32 (.lit 8)))]), (false, [(.lit (.int .i64 (.lit 1)))]), (false, [(.lit (.int .i64 (.lit 12288)))]), (false, [(.lit .nilSlice)])], false, r36_0c0⟩
theorem sv36 (G : Nat → Option Nat) (D : Hp) : SmValid Tryz.prog (GofSm G sm36) (DofSm D sm36) 86 sm36 := smValid0 (T := T36) (fuel := 2000) mixed hF (VT36 _ _) rfl r36_0k0
def T37 : List (Nat × List Sm) := []
theorem VT37 (G : Nat → Option Nat) (D : Hp) : AllV Tryz.prog G D T37 := trivial
noncomputable def M37 : TT (SV × SP) := evFnD (cfgT F (fun _ => none) hpE T37) 2000 86 (patAs 0 [(false, [(.lit (.int .u32 (.lit 2147483650)))]), (false, [(.lit (.int .i64 (.lit 3)))]), (false, [(.lit (.int .u32 (.lit 12)))]), (false, [(.lit (.int .i64 (.lit 1)))]), (false, [(.lit (.int .i64 (.lit 12288)))]), (false, [(.lit .nilSlice)])]) ⟨hpE, []⟩
def spc37 : PC := []
def r37_0c0 : RT := (.leaf (.agg [(.int .i64 (.lit 1)), (.int .u32 (.lit 12)), (.int .u32 (.lit 0)), (.int .u32 (.lit 0)), (.int .u32 (.lit 0))]))
theorem r37_0k0 : r37_0c0.ok 0 M37 spc37 = true := by kernel_rfl
def sm37 : Sm := ⟨[(false, [(.lit (.int .u32 (.lit 2147483650)))]), (false, [(.lit (.int .i64 (.lit 3)))]), (false, [(.lit (.int .u32 (.lit 12)))]), (false, [(.lit (.int .i64 (.lit 1)))]), (false, [(.lit (.int .i64 (.lit 12288)))]), (false, [(.lit .nilSlice)])], false, r37_0c0⟩
theorem sv37 (G : Nat → Option Nat) (D : Hp) : SmValid Tryz.prog (GofSm G sm37) (DofSm D sm37) 86 sm37 := smValid0 (T := T37) (fuel := 2000) mixed hF (VT37 _ _) rfl r37_0k0
def T38 : List (Nat × List Sm) := []
theorem VT38 (G : Nat → Option Nat) (D : Hp) : AllV Tryz.prog G D T38 := trivial
noncomputable def M38 : TT (SV × SP) := evFnD (cfgT F (fun _ => none) hpE T38) 2000 86 (patAs 0 [(false, [(.lit (.int .u32 (.lit 2147483650)))]), (false, [(.lit (.int .i64 (.lit 3)))]), (false, [(.lit (.int .u32 (.lit 16)))]), (false, [(.lit (.int .i64 (.lit 1)))]), (false, [(.lit (.int .i64 (.lit 12288)))]), (false, [(.lit .nilSlice)])]) ⟨hpE, []⟩
def spc38 : PC := []
def r38_0c0 : RT := (.leaf (.agg [(.int .i64 (.lit 1)), (.int .u32 (.lit 16)), (.int .u32 (.lit 0)), (.int .u32 (.lit 0)), (.int .u32 (.lit 0))]))
theorem r38_0k0 : r38_0c0.ok 0 M38 spc38 = true := by kernel_rfl
def sm38 : Sm := ⟨[(false, [(.lit (.int .u32 (.lit 2147483650)))]), (false, [(.lit (.int .i64 (.lit 3)))]), (false, [(.lit (.int .u32 (.lit 16)))]), (false, [(.lit (.int .i64 (.lit 1)))]), (false, [(.lit (.int .i64 (.lit 12288)))]), (false, [(.lit .nilSlice)])], false, r38_0c0⟩
theorem sv38 (G : Nat → Option Nat) (D : Hp) : SmValid Tryz.prog (GofSm G sm38) (DofSm D sm38) 86 sm38 := smValid0 (T := T38) (fuel := 2000) mixed hF (VT38 _ _) rfl r38_0k0
def T39 : List (Nat × List Sm) := []
theorem VT39 (G : Nat → Option Nat) (D : Hp) : AllV Tryz.prog G D T39 := trivial
noncomputable def M39 : TT (SV × SP) := evFnD (cfgT F (fun _ => none) hpE T39) 2000 86 (patAs 0 [(false, [(.lit (.int .u32 (.lit 2147483650)))]), (false, [(.lit (.int .i64 (.lit 3)))]), (false, [(.lit (.int .u32 (.lit 20)))]), (false, [(.lit (.int .i64 (.lit 1)))]), (false, [(.lit (.int .i64 (.lit 12288)))]), (false, [(.lit .nilSlice)])]) ⟨hpE, []⟩
def spc39 : PC := []
def r39_0c0 : RT := (.leaf (.agg [(.int .i64 (.lit 1)), (.int .u32 (.lit 20)), (.int .u32 (.lit 0)), (.int .u32 (.lit 0)), (.int .u32 (.lit 0))]))
theorem r39_0k0 : r39_0c0.ok 0 M39 spc39 = true := by kernel_rfl
def sm39 : Sm := ⟨[(false, [(.lit (.int .u32 (.lit 2147483650)))]), (false, [(.lit (.int .i64 (.lit 3)))]), (false, [(.lit (.int .u32 (.lit 20)))]), (false, [(.lit (.int .i64 (.lit 1)))]), (false, [(.lit (.int .i64 (.lit 12288)))]), (false, [(.lit .nilSlice)])], false, r39_0c0⟩
theorem sv39 (G : Nat → Option Nat) (D : Hp) : SmValid Tryz.prog (GofSm G sm39) (DofSm D sm39) 86 sm39 := smValid0 (T := T39) (fuel := 2000) mixed hF (VT39 _ _) rfl r39_0k0
end Go.Proofs.YtlgfmmccnilkmaaGreatDoor.seqPages

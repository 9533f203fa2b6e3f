/- Summaries of functions that SeqPages comes to, held against their runs. No condition. -/
import Derived.Test.YtlgfmmccnilkmaaGreatDoorFSeqPages
namespace Go.Proofs.YtlgfmmccnilkmaaGreatDoor.seqPages
open Go.Sx
set_option linter.unusedVariables false
set_option linter.unusedSimpArgs false
set_option maxRecDepth 1000000
def T40 : List (Nat × List Sm) := []
theorem VT40 (G : Nat → Option Nat) (D : Hp) : AllV Tryz.prog G D T40 := trivial
noncomputable def M40 : TT (SV × SP) := evFnD (cfgT F (fun _ => none) hpE T40) 2000 86 (patAs 0 [(false, [(.lit (.int .u32 (.lit 2147483650)))]), (false, [(.lit (.int .i64 (.lit 0)))]), (false, [(.lit (.int .u32 (.lit 64)))]), (false, [(.lit (.int .i64 (.lit 1)))]), (false, [(.lit (.int .i64 (.lit 12288)))]), (false, [(.lit .nilSlice)])]) ⟨hpE, []⟩
def spc40 : PC := []
def r40_0c0 : RT := (.leaf (.agg [(.int .i64 (.lit 3)), (.int .u32 (.lit 0)), (.int .u32 (.lit 8192)), (.int .u32 (.lit 0)), (.int .u32 (.lit 0))]))
theorem r40_0k0 : r40_0c0.ok 0 M40 spc40 = true := by kernel_rfl
def sm40 : Sm := ⟨[(false, [(.lit (.int .u32 (.lit 2147483650)))]), (false, [(.lit (.int .i64 (.lit 0)))]), (false, [(.lit (.int .u32 (.lit 64)))]), (false, [(.lit (.int .i64 (.lit 1)))]), (false, [(.lit (.int .i64 (.lit 12288)))]), (false, [(.lit .nilSlice)])], false, r40_0c0⟩
theorem sv40 (G : Nat → Option Nat) (D : Hp) : SmValid Tryz.prog (GofSm G sm40) (DofSm D sm40) 86 sm40 := smValid0 (T := T40) (fuel := 2000) mixed hF (VT40 _ _) rfl r40_0k0
def T41 : List (Nat × List Sm) := []
theorem VT41 (G : Nat → Option Nat) (D : Hp) : AllV Tryz.prog G D T41 := trivial
noncomputable def M41 : TT (SV × SP) := evFnD (cfgT F (fun _ => none) hpE T41) 2000 86 (patAs 0 [(false, [(.lit (.int .u32 (.lit 2147483650)))]), (false, [(.lit (.int .i64 (.lit 0)))]), (false, [(.lit (.int .u32 (.lit 68)))]), (false, [(.lit (.int .i64 (.lit 1)))]), (false, [(.lit (.int .i64 (.lit 12288)))]), (false, [(.lit .nilSlice)])]) ⟨hpE, []⟩
def spc41 : PC := []
def r41_0c0 : RT := (.leaf (.agg [(.int .i64 (.lit 3)), (.int .u32 (.lit 0)), (.int .u32 (.lit 8192)), (.int .u32 (.lit 0)), (.int .u32 (.lit 0))]))
theorem r41_0k0 : r41_0c0.ok 0 M41 spc41 = true := by kernel_rfl
def sm41 : Sm := ⟨[(false, [(.lit (.int .u32 (.lit 2147483650)))]), (false, [(.lit (.int .i64 (.lit 0)))]), (false, [(.lit (.int .u32 (.lit 68)))]), (false, [(.lit (.int .i64 (.lit 1)))]), (false, [(.lit (.int .i64 (.lit 12288)))]), (false, [(.lit .nilSlice)])], false, r41_0c0⟩
theorem sv41 (G : Nat → Option Nat) (D : Hp) : SmValid Tryz.prog (GofSm G sm41) (DofSm D sm41) 86 sm41 := smValid0 (T := T41) (fuel := 2000) mixed hF (VT41 _ _) rfl r41_0k0
def T42 : List (Nat × List Sm) := []
theorem VT42 (G : Nat → Option Nat) (D : Hp) : AllV Tryz.prog G D T42 := trivial
noncomputable def M42 : TT (SV × SP) := evFnD (cfgT F (fun _ => none) hpE T42) 2000 86 (patAs 0 [(false, [(.lit (.int .u32 (.lit 2147483650)))]), (false, [(.lit (.int .i64 (.lit 0)))]), (false, [(.lit (.int .u32 (.lit 4096)))]), (false, [(.lit (.int .i64 (.lit 2)))]), (false, [(.lit (.int .i64 (.lit 12288)))]), (false, [(.lit .nilSlice)])]) ⟨hpE, []⟩
def spc42 : PC := []
def r42_0c0 : RT := (.leaf (.agg [(.int .i64 (.lit 3)), (.int .u32 (.lit 0)), (.int .u32 (.lit 8192)), (.int .u32 (.lit 0)), (.int .u32 (.lit 0))]))
theorem r42_0k0 : r42_0c0.ok 0 M42 spc42 = true := by kernel_rfl
def sm42 : Sm := ⟨[(false, [(.lit (.int .u32 (.lit 2147483650)))]), (false, [(.lit (.int .i64 (.lit 0)))]), (false, [(.lit (.int .u32 (.lit 4096)))]), (false, [(.lit (.int .i64 (.lit 2)))]), (false, [(.lit (.int .i64 (.lit 12288)))]), (false, [(.lit .nilSlice)])], false, r42_0c0⟩
theorem sv42 (G : Nat → Option Nat) (D : Hp) : SmValid Tryz.prog (GofSm G sm42) (DofSm D sm42) 86 sm42 := smValid0 (T := T42) (fuel := 2000) mixed hF (VT42 _ _) rfl r42_0k0
def T43 : List (Nat × List Sm) := []
theorem VT43 (G : Nat → Option Nat) (D : Hp) : AllV Tryz.prog G D T43 := trivial
noncomputable def M43 : TT (SV × SP) := evFnD (cfgT F (fun _ => none) hpE T43) 2000 86 (patAs 0 [(false, [(.lit (.int .u32 (.lit 2147483650)))]), (false, [(.lit (.int .i64 (.lit 0)))]), (false, [(.lit (.int .u32 (.lit 4100)))]), (false, [(.lit (.int .i64 (.lit 2)))]), (false, [(.lit (.int .i64 (.lit 12288)))]), (false, [(.lit .nilSlice)])]) ⟨hpE, []⟩
def spc43 : PC := []
def r43_0c0 : RT := (.leaf (.agg [(.int .i64 (.lit 3)), (.int .u32 (.lit 0)), (.int .u32 (.lit 8192)), (.int .u32 (.lit 0)), (.int .u32 (.lit 0))]))
theorem r43_0k0 : r43_0c0.ok 0 M43 spc43 = true := by kernel_rfl
def sm43 : Sm := ⟨[(false, [(.lit (.int .u32 (.lit 2147483650)))]), (false, [(.lit (.int .i64 (.lit 0)))]), (false, [(.lit (.int .u32 (.lit 4100)))]), (false, [(.lit (.int .i64 (.lit 2)))]), (false, [(.lit (.int .i64 (.lit 12288)))]), (false, [(.lit .nilSlice)])], false, r43_0c0⟩
theorem sv43 (G : Nat → Option Nat) (D : Hp) : SmValid Tryz.prog (GofSm G sm43) (DofSm D sm43) 86 sm43 := smValid0 (T := T43) (fuel := 2000) mixed hF (VT43 _ _) rfl r43_0k0
def T44 : List (Nat × List Sm) := []
theorem VT44 (G : Nat → Option Nat) (D : Hp) : AllV Tryz.prog G D T44 := trivial
noncomputable def M44 : TT (SV × SP) := evFnD (cfgT F (fun _ => none) hpE T44) 2000 86 (patAs 0 [(false, [(.lit (.int .u32 (.lit 2147483650)))]), (false, [(.lit (.int .i64 (.lit 0)))]), (false, [(.lit (.int .u32 (.lit 4100)))]), (false, [(.lit (.int .i64 (.lit 3)))]), (false, [(.lit (.int .i64 (.lit 12288)))]), (false, [(.lit .nilSlice)])]) ⟨hpE, []⟩
def spc44 : PC := []
def r44_0c0 : RT := (.leaf (.agg [(.int .i64 (.lit 3)), (.int .u32 (.lit 0)), (.int .u32 (.lit 8192)), (.int .u32 (.lit 0)), (.int .u32 (.lit 0))]))
theorem r44_0k0 : r44_0c0.ok 0 M44 spc44 = true := by kernel_rfl
def sm44 : Sm := ⟨[(false, [(.lit (.int .u32 (.lit 2147483650)))]), (false, [(.lit (.int .i64 (.lit 0)))]), (false, [(.lit (.int .u32 (.lit 4100)))]), (false, [(.lit (.int .i64 (.lit 3)))]), (false, [(.lit (.int .i64 (.lit 12288)))]), (false, [(.lit .nilSlice)])], false, r44_0c0⟩
theorem sv44 (G : Nat → Option Nat) (D : Hp) : SmValid Tryz.prog (GofSm G sm44) (DofSm D sm44) 86 sm44 := smValid0 (T := T44) (fuel := 2000) mixed hF (VT44 _ _) rfl r44_0k0
def T45 : List (Nat × List Sm) := []
theorem VT45 (G : Nat → Option Nat) (D : Hp) : AllV Tryz.prog G D T45 := trivial
noncomputable def M45 : TT (SV × SP) := evFnD (cfgT F (fun _ => none) hpE T45) 2000 95 (patAs 0 [(false, [(.lit (.int .i64 (.lit 18)))])]) ⟨hpE, []⟩
def spc45 : PC := []
def r45_0c0 : RT := (.leaf (.int .i64 (.lit 4)))
theorem r45_0k0 : r45_0c0.ok 0 M45 spc45 = true := by kernel_rfl
def sm45 : Sm := ⟨[(false, [(.lit (.int .i64 (.lit 18)))])], false, r45_0c0⟩
theorem sv45 (G : Nat → Option Nat) (D : Hp) : SmValid Tryz.prog (GofSm G sm45) (DofSm D sm45) 95 sm45 := smValid0 (T := T45) (fuel := 2000) mixed hF (VT45 _ _) rfl r45_0k0
def T46 : List (Nat × List Sm) := []
theorem VT46 (G : Nat → Option Nat) (D : Hp) : AllV Tryz.prog G D T46 := trivial
noncomputable def M46 : TT (SV × SP) := evFnD (cfgT F (fun _ => none) hpE T46) 2000 95 (patAs 0 [(false, [(.lit (.int .i64 (.lit 13)))])]) ⟨hpE, []⟩
def spc46 : PC := []
def r46_0c0 : RT := (.leaf (.int .i64 (.lit 4)))
theorem r46_0k0 : r46_0c0.ok 0 M46 spc46 = true := by kernel_rfl
def sm46 : Sm := ⟨[(false, [(.lit (.int .i64 (.lit 13)))])], false, r46_0c0⟩
theorem sv46 (G : Nat → Option Nat) (D : Hp) : SmValid Tryz.prog (GofSm G sm46) (DofSm D sm46) 95 sm46 := smValid0 (T := T46) (fuel := 2000) mixed hF (VT46 _ _) rfl r46_0k0
def T47 : List (Nat × List Sm) := []
theorem VT47 (G : Nat → Option Nat) (D : Hp) : AllV Tryz.prog G D T47 := trivial
noncomputable def M47 : TT (SV × SP) := evFnD (cfgT F (fun _ => none) hpE T47) 2000 56 (patAs 0 [(false, [(.pat .u32 .u32 (.bin .or .u32 (.bin .or .u32 (.lit 8579) (.bin .shl .u32 (.bin .or .u32 (.bin .shl .u32 (.bin .and .u32 (.var 0) (.lit 12)) (.lit 4)) (.lit 1)) (.lit 16))) (.bin .shl .u32 (.bin .and .u32 (.bin .shr .u32 (.var 0) (.lit 4)) (.lit 31)) (.lit 24))))])]) ⟨hpE, []⟩
def spc47 : PC := []
def r47_0c0 : RT := (.leaf (.tuple [(.agg [(.int .i64 (.lit 13)), (.int .i64 (.lit 3)), (.int .i64 (.bin .shl .u32 (.lit 1) (.lit 1))), (.int .i64 (.lit 0)), (.int .i64 (.lit 0)), (.int .u32 (.bin .and .u32 (.cv .u32 (.var 0)) (.lit 508))), (.bool (.lit false)), (.bool (.lit false))]), (.bool (.lit true))]))
theorem r47_0k0 : r47_0c0.ok 0 M47 spc47 = true := by kernel_rfl
def sm47 : Sm := ⟨[(false, [(.pat .u32 .u32 (.bin .or .u32 (.bin .or .u32 (.lit 8579) (.bin .shl .u32 (.bin .or .u32 (.bin .shl .u32 (.bin .and .u32 (.var 0) (.lit 12)) (.lit 4)) (.lit 1)) (.lit 16))) (.bin .shl .u32 (.bin .and .u32 (.bin .shr .u32 (.var 0) (.lit 4)) (.lit 31)) (.lit 24))))])], false, r47_0c0⟩
theorem sv47 (G : Nat → Option Nat) (D : Hp) : SmValid Tryz.prog (GofSm G sm47) (DofSm D sm47) 56 sm47 := smValid0 (T := T47) (fuel := 2000) mixed hF (VT47 _ _) rfl r47_0k0
def T48 : List (Nat × List Sm) := []
theorem VT48 (G : Nat → Option Nat) (D : Hp) : AllV Tryz.prog G D T48 := trivial
noncomputable def M48 : TT (SV × SP) := evFnD (cfgT F (fun _ => none) hpE T48) 2000 56 (patAs 0 [(false, [(.pat .u32 .u32 (.bin .or .u32 (.bin .or .u32 (.bin .or .u32 (.lit 35) (.bin .shl .u32 (.bin .or .u32 (.lit 32) (.bin .shr .u32 (.bin .and .u32 (.var 0) (.lit 28)) (.lit 1))) (.lit 8))) (.lit 1114112)) (.bin .shl .u32 (.bin .shl .u32 (.bin .and .u32 (.bin .shr .u32 (.var 0) (.lit 5)) (.lit 15)) (.lit 1)) (.lit 24))))])]) ⟨hpE, []⟩
def spc48 : PC := []
def r48_0c0 : RT := (.leaf (.tuple [(.agg [(.int .i64 (.lit 18)), (.int .i64 (.lit 0)), (.int .i64 (.lit 2)), (.int .i64 (.bin .or .u32 (.lit 1) (.bin .shl .u32 (.lit 0) (.lit 4)))), (.int .i64 (.lit 0)), (.int .u32 (.bin .or .u32 (.bin .and .u32 (.cv .u32 (.var 0)) (.lit 480)) (.bin .shl .u32 (.bin .shr .u32 (.bin .and .u32 (.cv .u32 (.var 0)) (.lit 28)) (.lit 1)) (.lit 1)))), (.bool (.lit false)), (.bool (.lit false))]), (.bool (.lit true))]))
theorem r48_0k0 : r48_0c0.ok 0 M48 spc48 = true := by kernel_rfl
def sm48 : Sm := ⟨[(false, [(.pat .u32 .u32 (.bin .or .u32 (.bin .or .u32 (.bin .or .u32 (.lit 35) (.bin .shl .u32 (.bin .or .u32 (.lit 32) (.bin .shr .u32 (.bin .and .u32 (.var 0) (.lit 28)) (.lit 1))) (.lit 8))) (.lit 1114112)) (.bin .shl .u32 (.bin .shl .u32 (.bin .and .u32 (.bin .shr .u32 (.var 0) (.lit 5)) (.lit 15)) (.lit 1)) (.lit 24))))])], false, r48_0c0⟩
theorem sv48 (G : Nat → Option Nat) (D : Hp) : SmValid Tryz.prog (GofSm G sm48) (DofSm D sm48) 56 sm48 := smValid0 (T := T48) (fuel := 2000) mixed hF (VT48 _ _) rfl r48_0k0
end Go.Proofs.YtlgfmmccnilkmaaGreatDoor.seqPages

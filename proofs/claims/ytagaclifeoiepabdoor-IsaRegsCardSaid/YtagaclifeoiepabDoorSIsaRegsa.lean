/- Summaries of functions that IsaRegs comes to, held against their runs. No condition. -/
import Derived.Test.YtagaclifeoiepabDoorFIsaRegs
namespace Go.Proofs.YtagaclifeoiepabDoor.isaRegs
open Go.Sx
set_option linter.unusedVariables false
set_option linter.unusedSimpArgs false
set_option maxRecDepth 1000000
def T0 : List (Nat × List Sm) := []
theorem VT0 (G : Nat → Option Nat) (D : Hp) : AllV Tryd.prog G D T0 := trivial
noncomputable def M0 : TT (SV × SP) := evFnD (cfgT F (fun _ => none) hpE T0) 2000 36 (patAs 0 [(false, [(.int .u32)])]) ⟨hpE, seedCs (kindsOf [(false, [(.int .u32)])]) [0]⟩
def spc0 : PC := seedCs (kindsOf [(false, [(.int .u32)])]) [0]
def r0_0 : RT := (.leaf (.agg [(.int .u32 (.bin .and .u32 (.var 0) (.lit 127))), (.int .u32 (.bin .and .u32 (.bin .shr .u32 (.var 0) (.lit 7)) (.lit 31))), (.int .u32 (.bin .and .u32 (.bin .shr .u32 (.var 0) (.lit 12)) (.lit 7))), (.int .u32 (.bin .and .u32 (.bin .shr .u32 (.var 0) (.lit 15)) (.lit 31))), (.int .u32 (.bin .and .u32 (.bin .shr .u32 (.var 0) (.lit 20)) (.lit 31))), (.int .u32 (.bin .and .u32 (.bin .shr .u32 (.var 0) (.lit 25)) (.lit 127)))]))
theorem r0_0ok : r0_0.ok 0 (M0.go []) spc0 = true := by kernel_rfl
def sm0 : Sm := ⟨[(false, [(.int .u32)])], [0], false, r0_0⟩
theorem sv0 (G : Nat → Option Nat) (D : Hp) : SmValid Tryd.prog (GofSm G sm0) (DofSm D sm0) 36 sm0 := smValid0 (T := T0) (fuel := 2000) mixed hF (VT0 _ _) rfl r0_0ok
def TL : List (Nat × List Sm) := [(36, [sm0])]
theorem VTL : AllV Tryd.prog G doorH TL := ⟨fun sm h => by
  simp only [List.mem_cons, List.not_mem_nil, or_false] at h
  rcases h with rfl
  · exact sv0 G doorH, trivial⟩
noncomputable def CL : Cfg := cfgT F G doorH TL
end Go.Proofs.YtagaclifeoiepabDoor.isaRegs

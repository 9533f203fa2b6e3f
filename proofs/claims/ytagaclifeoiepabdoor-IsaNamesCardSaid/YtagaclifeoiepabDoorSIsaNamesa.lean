/- Summaries of functions that IsaNames comes to, held against their runs. No condition. -/
import Derived.Test.YtagaclifeoiepabDoorFIsaNames
namespace Go.Proofs.YtagaclifeoiepabDoor.isaNames
open Go.Sx
set_option linter.unusedVariables false
set_option linter.unusedSimpArgs false
set_option maxRecDepth 1000000
def T0 : List (Nat × List Sm) := []
theorem VT0 (G : Nat → Option Nat) (D : Hp) : AllV Tryd.prog G D T0 := trivial
noncomputable def M0 : TT (SV × SP) := evFnD (cfgT F (fun _ => none) hpE T0) 2000 36 (patAs 0 [(false, [(.int .u32)])]) ⟨hpE, []⟩
def spc0 : PC := []
def r0_0c0 : RT := (.leaf (.agg [(.int .u32 (.bin .and .u32 (.cv .u32 (.var 0)) (.lit 127))), (.int .u32 (.bin .and .u32 (.bin .shr .u32 (.cv .u32 (.var 0)) (.lit 7)) (.lit 31))), (.int .u32 (.bin .and .u32 (.bin .shr .u32 (.cv .u32 (.var 0)) (.lit 12)) (.lit 7))), (.int .u32 (.bin .and .u32 (.bin .shr .u32 (.cv .u32 (.var 0)) (.lit 15)) (.lit 31))), (.int .u32 (.bin .and .u32 (.bin .shr .u32 (.cv .u32 (.var 0)) (.lit 20)) (.lit 31))), (.int .u32 (.bin .shr .u32 (.cv .u32 (.var 0)) (.lit 25)))]))
theorem r0_0k0 : r0_0c0.ok 0 M0 spc0 = true := by kernel_rfl
def sm0 : Sm := ⟨[(false, [(.int .u32)])], false, r0_0c0⟩
theorem sv0 (G : Nat → Option Nat) (D : Hp) : SmValid Tryd.prog (GofSm G sm0) (DofSm D sm0) 36 sm0 := smValid0 (T := T0) (fuel := 2000) mixed hF (VT0 _ _) rfl r0_0k0
def T1 : List (Nat × List Sm) := [(36, [sm0])]
theorem VT1 (G : Nat → Option Nat) (D : Hp) : AllV Tryd.prog G D T1 := ⟨fun sm h => by
  simp only [List.mem_cons, List.not_mem_nil, or_false] at h
  rcases h with rfl
  · exact sv0 G D, trivial⟩
noncomputable def M1 : TT (SV × SP) := evFnD (cfgT F (fun _ => none) hpE T1) 2000 10 (patAs 0 [(false, [(.int .i64)])]) ⟨hpE, []⟩
def spc1 : PC := []
def r1_0c0 : RT := (.node (.cmp .lss (.cv .i64 (.var 0)) (.lit 1)) (.leaf (.str ⟨#[]⟩))
 (.node (.cmp .lss (.lit 69) (.cv .i64 (.var 0))) (.leaf (.str ⟨#[]⟩))
 (.node (.cmp .eql (.cv .i64 (.var 0)) (.lit 1)) (.leaf (.str ⟨#[108, 117, 105]⟩))
 (.node (.cmp .eql (.cv .i64 (.var 0)) (.lit 2)) (.leaf (.str ⟨#[97, 117, 105, 112, 99]⟩))
 (.node (.cmp .eql (.cv .i64 (.var 0)) (.lit 3)) (.leaf (.str ⟨#[106, 97, 108]⟩))
 (.node (.cmp .eql (.cv .i64 (.var 0)) (.lit 4)) (.leaf (.str ⟨#[106, 97, 108, 114]⟩))
 (.node (.cmp .eql (.cv .i64 (.var 0)) (.lit 5)) (.leaf (.str ⟨#[98, 101, 113]⟩))
 (.node (.cmp .eql (.cv .i64 (.var 0)) (.lit 6)) (.leaf (.str ⟨#[98, 110, 101]⟩))
 (.node (.cmp .eql (.cv .i64 (.var 0)) (.lit 7)) (.leaf (.str ⟨#[98, 108, 116]⟩))
 (.node (.cmp .eql (.cv .i64 (.var 0)) (.lit 8)) (.leaf (.str ⟨#[98, 103, 101]⟩))
 (.node (.cmp .eql (.cv .i64 (.var 0)) (.lit 9)) (.leaf (.str ⟨#[98, 108, 116, 117]⟩))
 (.node (.cmp .eql (.cv .i64 (.var 0)) (.lit 10)) (.leaf (.str ⟨#[98, 103, 101, 117]⟩))
 (.node (.cmp .eql (.cv .i64 (.var 0)) (.lit 11)) (.leaf (.str ⟨#[108, 98]⟩))
 (.node (.cmp .eql (.cv .i64 (.var 0)) (.lit 12)) (.leaf (.str ⟨#[108, 104]⟩))
 (.node (.cmp .eql (.cv .i64 (.var 0)) (.lit 13)) (.leaf (.str ⟨#[108, 119]⟩))
 (.node (.cmp .eql (.cv .i64 (.var 0)) (.lit 14)) (.leaf (.str ⟨#[108, 98, 117]⟩))
 (.node (.cmp .eql (.cv .i64 (.var 0)) (.lit 15)) (.leaf (.str ⟨#[108, 104, 117]⟩))
 (.node (.cmp .eql (.cv .i64 (.var 0)) (.lit 16)) (.leaf (.str ⟨#[115, 98]⟩))
 (.node (.cmp .eql (.cv .i64 (.var 0)) (.lit 17)) (.leaf (.str ⟨#[115, 104]⟩))
 (.node (.cmp .eql (.cv .i64 (.var 0)) (.lit 18)) (.leaf (.str ⟨#[115, 119]⟩))
 (.node (.cmp .eql (.cv .i64 (.var 0)) (.lit 19)) (.leaf (.str ⟨#[97, 100, 100, 105]⟩))
 (.node (.cmp .eql (.cv .i64 (.var 0)) (.lit 20)) (.leaf (.str ⟨#[115, 108, 116, 105]⟩))
 (.node (.cmp .eql (.cv .i64 (.var 0)) (.lit 21)) (.leaf (.str ⟨#[115, 108, 116, 105, 117]⟩))
 (.node (.cmp .eql (.cv .i64 (.var 0)) (.lit 22)) (.leaf (.str ⟨#[120, 111, 114, 105]⟩))
 (.node (.cmp .eql (.cv .i64 (.var 0)) (.lit 23)) (.leaf (.str ⟨#[111, 114, 105]⟩))
 (.node (.cmp .eql (.cv .i64 (.var 0)) (.lit 24)) (.leaf (.str ⟨#[97, 110, 100, 105]⟩))
 (.node (.cmp .eql (.cv .i64 (.var 0)) (.lit 25)) (.leaf (.str ⟨#[115, 108, 108, 105]⟩))
 (.node (.cmp .eql (.cv .i64 (.var 0)) (.lit 26)) (.leaf (.str ⟨#[115, 114, 108, 105]⟩))
 (.node (.cmp .eql (.cv .i64 (.var 0)) (.lit 27)) (.leaf (.str ⟨#[115, 114, 97, 105]⟩))
 (.node (.cmp .eql (.cv .i64 (.var 0)) (.lit 28)) (.leaf (.str ⟨#[97, 100, 100]⟩))
 (.node (.cmp .eql (.cv .i64 (.var 0)) (.lit 29)) (.leaf (.str ⟨#[115, 117, 98]⟩))
 (.node (.cmp .eql (.cv .i64 (.var 0)) (.lit 30)) (.leaf (.str ⟨#[115, 108, 108]⟩))
 (.node (.cmp .eql (.cv .i64 (.var 0)) (.lit 31)) (.leaf (.str ⟨#[115, 108, 116]⟩))
 (.node (.cmp .eql (.cv .i64 (.var 0)) (.lit 32)) (.leaf (.str ⟨#[115, 108, 116, 117]⟩))
 (.node (.cmp .eql (.cv .i64 (.var 0)) (.lit 33)) (.leaf (.str ⟨#[120, 111, 114]⟩))
 (.node (.cmp .eql (.cv .i64 (.var 0)) (.lit 34)) (.leaf (.str ⟨#[115, 114, 108]⟩))
 (.node (.cmp .eql (.cv .i64 (.var 0)) (.lit 35)) (.leaf (.str ⟨#[115, 114, 97]⟩))
 (.node (.cmp .eql (.cv .i64 (.var 0)) (.lit 36)) (.leaf (.str ⟨#[111, 114]⟩))
 (.node (.cmp .eql (.cv .i64 (.var 0)) (.lit 37)) (.leaf (.str ⟨#[97, 110, 100]⟩))
 (.node (.cmp .eql (.cv .i64 (.var 0)) (.lit 38)) (.leaf (.str ⟨#[102, 101, 110, 99, 101]⟩))
 (.node (.cmp .eql (.cv .i64 (.var 0)) (.lit 39)) (.leaf (.str ⟨#[102, 101, 110, 99, 101, 46, 105]⟩))
 (.node (.cmp .eql (.cv .i64 (.var 0)) (.lit 40)) (.leaf (.str ⟨#[101, 99, 97, 108, 108]⟩))
 (.node (.cmp .eql (.cv .i64 (.var 0)) (.lit 41)) (.leaf (.str ⟨#[101, 98, 114, 101, 97, 107]⟩))
 (.node (.cmp .eql (.cv .i64 (.var 0)) (.lit 42)) (.leaf (.str ⟨#[109, 114, 101, 116]⟩))
 (.node (.cmp .eql (.cv .i64 (.var 0)) (.lit 43)) (.leaf (.str ⟨#[119, 102, 105]⟩))
 (.node (.cmp .eql (.cv .i64 (.var 0)) (.lit 44)) (.leaf (.str ⟨#[115, 102, 101, 110, 99, 101, 46, 118, 109, 97]⟩))
 (.node (.cmp .eql (.cv .i64 (.var 0)) (.lit 45)) (.leaf (.str ⟨#[99, 115, 114, 114, 119]⟩))
 (.node (.cmp .eql (.cv .i64 (.var 0)) (.lit 46)) (.leaf (.str ⟨#[99, 115, 114, 114, 115]⟩))
 (.node (.cmp .eql (.cv .i64 (.var 0)) (.lit 47)) (.leaf (.str ⟨#[99, 115, 114, 114, 99]⟩))
 (.node (.cmp .eql (.cv .i64 (.var 0)) (.lit 48)) (.leaf (.str ⟨#[99, 115, 114, 114, 119, 105]⟩))
 (.node (.cmp .eql (.cv .i64 (.var 0)) (.lit 49)) (.leaf (.str ⟨#[99, 115, 114, 114, 115, 105]⟩))
 (.node (.cmp .eql (.cv .i64 (.var 0)) (.lit 50)) (.leaf (.str ⟨#[99, 115, 114, 114, 99, 105]⟩))
 (.node (.cmp .eql (.cv .i64 (.var 0)) (.lit 51)) (.leaf (.str ⟨#[109, 117, 108]⟩))
 (.node (.cmp .eql (.cv .i64 (.var 0)) (.lit 52)) (.leaf (.str ⟨#[109, 117, 108, 104]⟩))
 (.node (.cmp .eql (.cv .i64 (.var 0)) (.lit 53)) (.leaf (.str ⟨#[109, 117, 108, 104, 115, 117]⟩))
 (.node (.cmp .eql (.cv .i64 (.var 0)) (.lit 54)) (.leaf (.str ⟨#[109, 117, 108, 104, 117]⟩))
 (.node (.cmp .eql (.cv .i64 (.var 0)) (.lit 55)) (.leaf (.str ⟨#[100, 105, 118]⟩))
 (.node (.cmp .eql (.cv .i64 (.var 0)) (.lit 56)) (.leaf (.str ⟨#[100, 105, 118, 117]⟩))
 (.node (.cmp .eql (.cv .i64 (.var 0)) (.lit 57)) (.leaf (.str ⟨#[114, 101, 109]⟩))
 (.node (.cmp .eql (.cv .i64 (.var 0)) (.lit 58)) (.leaf (.str ⟨#[114, 101, 109, 117]⟩))
 .dead))))))))))))))))))))))))))))))))))))))))))))))))))))))))))))
theorem r1_0k0 : r1_0c0.ok 0 M1 spc1 = true := by kernel_rfl
noncomputable def r1_0M0 : TT (SV × SP) := M1.go [false, false, false, false, false, false, false, false, false, false, false, false, false, false, false, false, false, false, false, false, false, false, false, false, false, false, false, false, false, false, false, false, false, false, false, false, false, false, false, false, false, false, false, false, false, false, false, false, false, false, false, false, false, false, false, false, false, false, false, false]
def r1_0p0 : PC := r1_0c0.pcAt [false, false, false, false, false, false, false, false, false, false, false, false, false, false, false, false, false, false, false, false, false, false, false, false, false, false, false, false, false, false, false, false, false, false, false, false, false, false, false, false, false, false, false, false, false, false, false, false, false, false, false, false, false, false, false, false, false, false, false, false] spc1
def r1_1c0 : RT := (.node (.cmp .eql (.cv .i64 (.var 0)) (.lit 59)) (.leaf (.str ⟨#[108, 114, 46, 119]⟩))
 (.node (.cmp .eql (.cv .i64 (.var 0)) (.lit 60)) (.leaf (.str ⟨#[115, 99, 46, 119]⟩))
 (.node (.cmp .eql (.cv .i64 (.var 0)) (.lit 61)) (.leaf (.str ⟨#[97, 109, 111, 115, 119, 97, 112, 46, 119]⟩))
 (.node (.cmp .eql (.cv .i64 (.var 0)) (.lit 62)) (.leaf (.str ⟨#[97, 109, 111, 97, 100, 100, 46, 119]⟩))
 (.node (.cmp .eql (.cv .i64 (.var 0)) (.lit 63)) (.leaf (.str ⟨#[97, 109, 111, 120, 111, 114, 46, 119]⟩))
 (.node (.cmp .eql (.cv .i64 (.var 0)) (.lit 64)) (.leaf (.str ⟨#[97, 109, 111, 97, 110, 100, 46, 119]⟩))
 (.node (.cmp .eql (.cv .i64 (.var 0)) (.lit 65)) (.leaf (.str ⟨#[97, 109, 111, 111, 114, 46, 119]⟩))
 (.node (.cmp .eql (.cv .i64 (.var 0)) (.lit 66)) (.leaf (.str ⟨#[97, 109, 111, 109, 105, 110, 46, 119]⟩))
 (.node (.cmp .eql (.cv .i64 (.var 0)) (.lit 67)) (.leaf (.str ⟨#[97, 109, 111, 109, 97, 120, 46, 119]⟩))
 (.node (.cmp .eql (.cv .i64 (.var 0)) (.lit 68)) (.leaf (.str ⟨#[97, 109, 111, 109, 105, 110, 117, 46, 119]⟩))
 (.node (.cmp .eql (.cv .i64 (.var 0)) (.lit 69)) (.leaf (.str ⟨#[97, 109, 111, 109, 97, 120, 117, 46, 119]⟩))
 .dead)))))))))))
theorem r1_1k0 : r1_1c0.ok 0 r1_0M0 r1_0p0 = true := by kernel_rfl
def r1_0c1 : RT := r1_0c0.plug [false, false, false, false, false, false, false, false, false, false, false, false, false, false, false, false, false, false, false, false, false, false, false, false, false, false, false, false, false, false, false, false, false, false, false, false, false, false, false, false, false, false, false, false, false, false, false, false, false, false, false, false, false, false, false, false, false, false, false, false] r1_1c0
theorem r1_0k1 : r1_0c1.ok 0 M1 spc1 = true := RT.ok_plug (p := [false, false, false, false, false, false, false, false, false, false, false, false, false, false, false, false, false, false, false, false, false, false, false, false, false, false, false, false, false, false, false, false, false, false, false, false, false, false, false, false, false, false, false, false, false, false, false, false, false, false, false, false, false, false, false, false, false, false, false, false]) r1_0k0 r1_1k0
def sm1 : Sm := ⟨[(false, [(.int .i64)])], false, r1_0c1⟩
theorem sv1 (G : Nat → Option Nat) (D : Hp) : SmValid Tryd.prog (GofSm G sm1) (DofSm D sm1) 10 sm1 := smValid0 (T := T1) (fuel := 2000) mixed hF (VT1 _ _) rfl r1_0k1
def T2 : List (Nat × List Sm) := [(10, [sm1]), (36, [sm0])]
theorem VT2 (G : Nat → Option Nat) (D : Hp) : AllV Tryd.prog G D T2 := ⟨fun sm h => by
  simp only [List.mem_cons, List.not_mem_nil, or_false] at h
  rcases h with rfl
  · exact sv1 G D, ⟨fun sm h => by
  simp only [List.mem_cons, List.not_mem_nil, or_false] at h
  rcases h with rfl
  · exact sv0 G D, trivial⟩⟩
noncomputable def M2 : TT (SV × SP) := evFnD (cfgT F (fun _ => none) hpE T2) 2000 11 (patAs 0 [(false, [(.int .i64)])]) ⟨hpE, []⟩
def spc2 : PC := []
def r2_0c0 : RT := (.node (.cmp .lss (.cv .i64 (.var 0)) (.lit 1)) (.leaf (.int .i64 (.lit 0)))
 (.node (.cmp .lss (.lit 69) (.cv .i64 (.var 0))) (.leaf (.int .i64 (.lit 0)))
 (.node (.cmp .eql (.cv .i64 (.var 0)) (.lit 1)) (.leaf (.int .i64 (.lit 1)))
 (.node (.cmp .eql (.cv .i64 (.var 0)) (.lit 2)) (.leaf (.int .i64 (.lit 1)))
 (.node (.cmp .eql (.cv .i64 (.var 0)) (.lit 3)) (.leaf (.int .i64 (.lit 2)))
 (.node (.cmp .eql (.cv .i64 (.var 0)) (.lit 4)) (.leaf (.int .i64 (.lit 2)))
 (.node (.cmp .eql (.cv .i64 (.var 0)) (.lit 5)) (.leaf (.int .i64 (.lit 3)))
 (.node (.cmp .eql (.cv .i64 (.var 0)) (.lit 6)) (.leaf (.int .i64 (.lit 3)))
 (.node (.cmp .eql (.cv .i64 (.var 0)) (.lit 7)) (.leaf (.int .i64 (.lit 3)))
 (.node (.cmp .eql (.cv .i64 (.var 0)) (.lit 8)) (.leaf (.int .i64 (.lit 3)))
 (.node (.cmp .eql (.cv .i64 (.var 0)) (.lit 9)) (.leaf (.int .i64 (.lit 3)))
 (.node (.cmp .eql (.cv .i64 (.var 0)) (.lit 10)) (.leaf (.int .i64 (.lit 3)))
 (.node (.cmp .eql (.cv .i64 (.var 0)) (.lit 11)) (.leaf (.int .i64 (.lit 4)))
 (.node (.cmp .eql (.cv .i64 (.var 0)) (.lit 12)) (.leaf (.int .i64 (.lit 4)))
 (.node (.cmp .eql (.cv .i64 (.var 0)) (.lit 13)) (.leaf (.int .i64 (.lit 4)))
 (.node (.cmp .eql (.cv .i64 (.var 0)) (.lit 14)) (.leaf (.int .i64 (.lit 4)))
 (.node (.cmp .eql (.cv .i64 (.var 0)) (.lit 15)) (.leaf (.int .i64 (.lit 4)))
 (.node (.cmp .eql (.cv .i64 (.var 0)) (.lit 16)) (.leaf (.int .i64 (.lit 5)))
 (.node (.cmp .eql (.cv .i64 (.var 0)) (.lit 17)) (.leaf (.int .i64 (.lit 5)))
 (.node (.cmp .eql (.cv .i64 (.var 0)) (.lit 18)) (.leaf (.int .i64 (.lit 5)))
 (.node (.cmp .eql (.cv .i64 (.var 0)) (.lit 19)) (.leaf (.int .i64 (.lit 1)))
 (.node (.cmp .eql (.cv .i64 (.var 0)) (.lit 20)) (.leaf (.int .i64 (.lit 1)))
 (.node (.cmp .eql (.cv .i64 (.var 0)) (.lit 21)) (.leaf (.int .i64 (.lit 1)))
 (.node (.cmp .eql (.cv .i64 (.var 0)) (.lit 22)) (.leaf (.int .i64 (.lit 1)))
 (.node (.cmp .eql (.cv .i64 (.var 0)) (.lit 23)) (.leaf (.int .i64 (.lit 1)))
 (.node (.cmp .eql (.cv .i64 (.var 0)) (.lit 24)) (.leaf (.int .i64 (.lit 1)))
 (.node (.cmp .eql (.cv .i64 (.var 0)) (.lit 25)) (.leaf (.int .i64 (.lit 1)))
 (.node (.cmp .eql (.cv .i64 (.var 0)) (.lit 26)) (.leaf (.int .i64 (.lit 1)))
 (.node (.cmp .eql (.cv .i64 (.var 0)) (.lit 27)) (.leaf (.int .i64 (.lit 1)))
 (.node (.cmp .eql (.cv .i64 (.var 0)) (.lit 28)) (.leaf (.int .i64 (.lit 1)))
 (.node (.cmp .eql (.cv .i64 (.var 0)) (.lit 29)) (.leaf (.int .i64 (.lit 1)))
 (.node (.cmp .eql (.cv .i64 (.var 0)) (.lit 30)) (.leaf (.int .i64 (.lit 1)))
 (.node (.cmp .eql (.cv .i64 (.var 0)) (.lit 31)) (.leaf (.int .i64 (.lit 1)))
 (.node (.cmp .eql (.cv .i64 (.var 0)) (.lit 32)) (.leaf (.int .i64 (.lit 1)))
 (.node (.cmp .eql (.cv .i64 (.var 0)) (.lit 33)) (.leaf (.int .i64 (.lit 1)))
 (.node (.cmp .eql (.cv .i64 (.var 0)) (.lit 34)) (.leaf (.int .i64 (.lit 1)))
 (.node (.cmp .eql (.cv .i64 (.var 0)) (.lit 35)) (.leaf (.int .i64 (.lit 1)))
 (.node (.cmp .eql (.cv .i64 (.var 0)) (.lit 36)) (.leaf (.int .i64 (.lit 1)))
 (.node (.cmp .eql (.cv .i64 (.var 0)) (.lit 37)) (.leaf (.int .i64 (.lit 1)))
 (.node (.cmp .eql (.cv .i64 (.var 0)) (.lit 38)) (.leaf (.int .i64 (.lit 7)))
 (.node (.cmp .eql (.cv .i64 (.var 0)) (.lit 39)) (.leaf (.int .i64 (.lit 7)))
 (.node (.cmp .eql (.cv .i64 (.var 0)) (.lit 40)) (.leaf (.int .i64 (.lit 7)))
 (.node (.cmp .eql (.cv .i64 (.var 0)) (.lit 41)) (.leaf (.int .i64 (.lit 7)))
 (.node (.cmp .eql (.cv .i64 (.var 0)) (.lit 42)) (.leaf (.int .i64 (.lit 7)))
 (.node (.cmp .eql (.cv .i64 (.var 0)) (.lit 43)) (.leaf (.int .i64 (.lit 7)))
 (.node (.cmp .eql (.cv .i64 (.var 0)) (.lit 44)) (.leaf (.int .i64 (.lit 7)))
 (.node (.cmp .eql (.cv .i64 (.var 0)) (.lit 45)) (.leaf (.int .i64 (.lit 7)))
 (.node (.cmp .eql (.cv .i64 (.var 0)) (.lit 46)) (.leaf (.int .i64 (.lit 7)))
 (.node (.cmp .eql (.cv .i64 (.var 0)) (.lit 47)) (.leaf (.int .i64 (.lit 7)))
 (.node (.cmp .eql (.cv .i64 (.var 0)) (.lit 48)) (.leaf (.int .i64 (.lit 7)))
 (.node (.cmp .eql (.cv .i64 (.var 0)) (.lit 49)) (.leaf (.int .i64 (.lit 7)))
 (.node (.cmp .eql (.cv .i64 (.var 0)) (.lit 50)) (.leaf (.int .i64 (.lit 7)))
 (.node (.cmp .eql (.cv .i64 (.var 0)) (.lit 51)) (.leaf (.int .i64 (.lit 1)))
 (.node (.cmp .eql (.cv .i64 (.var 0)) (.lit 52)) (.leaf (.int .i64 (.lit 1)))
 (.node (.cmp .eql (.cv .i64 (.var 0)) (.lit 53)) (.leaf (.int .i64 (.lit 1)))
 (.node (.cmp .eql (.cv .i64 (.var 0)) (.lit 54)) (.leaf (.int .i64 (.lit 1)))
 (.node (.cmp .eql (.cv .i64 (.var 0)) (.lit 55)) (.leaf (.int .i64 (.lit 1)))
 (.node (.cmp .eql (.cv .i64 (.var 0)) (.lit 56)) (.leaf (.int .i64 (.lit 1)))
 (.node (.cmp .eql (.cv .i64 (.var 0)) (.lit 57)) (.leaf (.int .i64 (.lit 1)))
 (.node (.cmp .eql (.cv .i64 (.var 0)) (.lit 58)) (.leaf (.int .i64 (.lit 1)))
 .dead))))))))))))))))))))))))))))))))))))))))))))))))))))))))))))
theorem r2_0k0 : r2_0c0.ok 0 M2 spc2 = true := by kernel_rfl
noncomputable def r2_0M0 : TT (SV × SP) := M2.go [false, false, false, false, false, false, false, false, false, false, false, false, false, false, false, false, false, false, false, false, false, false, false, false, false, false, false, false, false, false, false, false, false, false, false, false, false, false, false, false, false, false, false, false, false, false, false, false, false, false, false, false, false, false, false, false, false, false, false, false]
def r2_0p0 : PC := r2_0c0.pcAt [false, false, false, false, false, false, false, false, false, false, false, false, false, false, false, false, false, false, false, false, false, false, false, false, false, false, false, false, false, false, false, false, false, false, false, false, false, false, false, false, false, false, false, false, false, false, false, false, false, false, false, false, false, false, false, false, false, false, false, false] spc2
def r2_1c0 : RT := (.node (.cmp .eql (.cv .i64 (.var 0)) (.lit 59)) (.leaf (.int .i64 (.lit 4)))
 (.node (.cmp .eql (.cv .i64 (.var 0)) (.lit 60)) (.leaf (.int .i64 (.lit 6)))
 (.node (.cmp .eql (.cv .i64 (.var 0)) (.lit 61)) (.leaf (.int .i64 (.lit 6)))
 (.node (.cmp .eql (.cv .i64 (.var 0)) (.lit 62)) (.leaf (.int .i64 (.lit 6)))
 (.node (.cmp .eql (.cv .i64 (.var 0)) (.lit 63)) (.leaf (.int .i64 (.lit 6)))
 (.node (.cmp .eql (.cv .i64 (.var 0)) (.lit 64)) (.leaf (.int .i64 (.lit 6)))
 (.node (.cmp .eql (.cv .i64 (.var 0)) (.lit 65)) (.leaf (.int .i64 (.lit 6)))
 (.node (.cmp .eql (.cv .i64 (.var 0)) (.lit 66)) (.leaf (.int .i64 (.lit 6)))
 (.node (.cmp .eql (.cv .i64 (.var 0)) (.lit 67)) (.leaf (.int .i64 (.lit 6)))
 (.node (.cmp .eql (.cv .i64 (.var 0)) (.lit 68)) (.leaf (.int .i64 (.lit 6)))
 (.node (.cmp .eql (.cv .i64 (.var 0)) (.lit 69)) (.leaf (.int .i64 (.lit 6)))
 .dead)))))))))))
theorem r2_1k0 : r2_1c0.ok 0 r2_0M0 r2_0p0 = true := by kernel_rfl
def r2_0c1 : RT := r2_0c0.plug [false, false, false, false, false, false, false, false, false, false, false, false, false, false, false, false, false, false, false, false, false, false, false, false, false, false, false, false, false, false, false, false, false, false, false, false, false, false, false, false, false, false, false, false, false, false, false, false, false, false, false, false, false, false, false, false, false, false, false, false] r2_1c0
theorem r2_0k1 : r2_0c1.ok 0 M2 spc2 = true := RT.ok_plug (p := [false, false, false, false, false, false, false, false, false, false, false, false, false, false, false, false, false, false, false, false, false, false, false, false, false, false, false, false, false, false, false, false, false, false, false, false, false, false, false, false, false, false, false, false, false, false, false, false, false, false, false, false, false, false, false, false, false, false, false, false]) r2_0k0 r2_1k0
def sm2 : Sm := ⟨[(false, [(.int .i64)])], false, r2_0c1⟩
theorem sv2 (G : Nat → Option Nat) (D : Hp) : SmValid Tryd.prog (GofSm G sm2) (DofSm D sm2) 11 sm2 := smValid0 (T := T2) (fuel := 2000) mixed hF (VT2 _ _) rfl r2_0k1
def T3 : List (Nat × List Sm) := [(11, [sm2]), (10, [sm1]), (36, [sm0])]
theorem VT3 (G : Nat → Option Nat) (D : Hp) : AllV Tryd.prog G D T3 := ⟨fun sm h => by
  simp only [List.mem_cons, List.not_mem_nil, or_false] at h
  rcases h with rfl
  · exact sv2 G D, ⟨fun sm h => by
  simp only [List.mem_cons, List.not_mem_nil, or_false] at h
  rcases h with rfl
  · exact sv1 G D, ⟨fun sm h => by
  simp only [List.mem_cons, List.not_mem_nil, or_false] at h
  rcases h with rfl
  · exact sv0 G D, trivial⟩⟩⟩
noncomputable def M3 : TT (SV × SP) := evFnD (cfgT F (fun _ => none) hpE T3) 2000 18 (patAs 0 [(false, [.str])]) ⟨hpE, []⟩
def spc3 : PC := []
def r3_0c0 : RT := (.node (.cmp .eql (.var 0) (.lit 7031629)) (.leaf (.int .i64 (.lit 1)))
 (.node (.cmp .eql (.var 0) (.lit 438172200727)) (.leaf (.int .i64 (.lit 2)))
 (.node (.cmp .eql (.var 0) (.lit 7224634)) (.leaf (.int .i64 (.lit 3)))
 (.node (.cmp .eql (.var 0) (.lit 1959302829)) (.leaf (.int .i64 (.lit 4)))
 (.node (.cmp .eql (.var 0) (.lit 7555899)) (.leaf (.int .i64 (.lit 5)))
 (.node (.cmp .eql (.var 0) (.lit 6765624)) (.leaf (.int .i64 (.lit 6)))
 (.node (.cmp .eql (.var 0) (.lit 7755845)) (.leaf (.int .i64 (.lit 7)))
 (.node (.cmp .eql (.var 0) (.lit 6763825)) (.leaf (.int .i64 (.lit 8)))
 (.node (.cmp .eql (.var 0) (.lit 2010757819)) (.leaf (.int .i64 (.lit 9)))
 (.node (.cmp .eql (.var 0) (.lit 2009765799)) (.leaf (.int .i64 (.lit 10)))
 (.node (.cmp .eql (.var 0) (.lit 25552)) (.leaf (.int .i64 (.lit 11)))
 (.node (.cmp .eql (.var 0) (.lit 27094)) (.leaf (.int .i64 (.lit 12)))
 (.node (.cmp .eql (.var 0) (.lit 30949)) (.leaf (.int .i64 (.lit 13)))
 (.node (.cmp .eql (.var 0) (.lit 7819334)) (.leaf (.int .i64 (.lit 14)))
 (.node (.cmp .eql (.var 0) (.lit 7820876)) (.leaf (.int .i64 (.lit 15)))
 (.node (.cmp .eql (.var 0) (.lit 25559)) (.leaf (.int .i64 (.lit 16)))
 (.node (.cmp .eql (.var 0) (.lit 27101)) (.leaf (.int .i64 (.lit 17)))
 (.node (.cmp .eql (.var 0) (.lit 30956)) (.leaf (.int .i64 (.lit 18)))
 (.node (.cmp .eql (.var 0) (.lit 1806003862)) (.leaf (.int .i64 (.lit 19)))
 (.node (.cmp .eql (.var 0) (.lit 1807062720)) (.leaf (.int .i64 (.lit 20)))
 (.node (.cmp .eql (.var 0) (.lit 516578570038)) (.leaf (.int .i64 (.lit 21)))
 (.node (.cmp .eql (.var 0) (.lit 1806931398)) (.leaf (.int .i64 (.lit 22)))
 (.node (.cmp .eql (.var 0) (.lit 7030861)) (.leaf (.int .i64 (.lit 23)))
 (.node (.cmp .eql (.var 0) (.lit 1806006432)) (.leaf (.int .i64 (.lit 24)))
 (.node (.cmp .eql (.var 0) (.lit 1806534328)) (.leaf (.int .i64 (.lit 25)))
 (.node (.cmp .eql (.var 0) (.lit 1806535870)) (.leaf (.int .i64 (.lit 26)))
 (.node (.cmp .eql (.var 0) (.lit 1805809331)) (.leaf (.int .i64 (.lit 27)))
 (.node (.cmp .eql (.var 0) (.lit 6697004)) (.leaf (.int .i64 (.lit 28)))
 (.node (.cmp .eql (.var 0) (.lit 6569293)) (.leaf (.int .i64 (.lit 29)))
 (.node (.cmp .eql (.var 0) (.lit 7227470)) (.leaf (.int .i64 (.lit 30)))
 (.node (.cmp .eql (.var 0) (.lit 7755862)) (.leaf (.int .i64 (.lit 31)))
 (.node (.cmp .eql (.var 0) (.lit 2010757836)) (.leaf (.int .i64 (.lit 32)))
 (.node (.cmp .eql (.var 0) (.lit 7624540)) (.leaf (.int .i64 (.lit 33)))
 (.node (.cmp .eql (.var 0) (.lit 7229012)) (.leaf (.int .i64 (.lit 34)))
 (.node (.cmp .eql (.var 0) (.lit 6502473)) (.leaf (.int .i64 (.lit 35)))
 (.node (.cmp .eql (.var 0) (.lit 29667)) (.leaf (.int .i64 (.lit 36)))
 (.node (.cmp .eql (.var 0) (.lit 6699574)) (.leaf (.int .i64 (.lit 37)))
 (.node (.cmp .eql (.var 0) (.lit 446676797958)) (.leaf (.int .i64 (.lit 38)))
 (.node (.cmp .eql (.var 0) (.lit 30595642553430431)) (.leaf (.int .i64 (.lit 39)))
 (.node (.cmp .eql (.var 0) (.lit 477366002950)) (.leaf (.int .i64 (.lit 40)))
 (.node (.cmp .eql (.var 0) (.lit 121513989579120)) (.leaf (.int .i64 (.lit 41)))
 (.node (.cmp .eql (.var 0) (.lit 1992794044)) (.leaf (.int .i64 (.lit 42)))
 (.node (.cmp .eql (.var 0) (.lit 7027785)) (.leaf (.int .i64 (.lit 43)))
 (.node (.cmp .eql (.var 0) (.lit 481420745543119587266288)) (.leaf (.int .i64 (.lit 44)))
 (.node (.cmp .eql (.var 0) (.lit 525456151862)) (.leaf (.int .i64 (.lit 45)))
 (.node (.cmp .eql (.var 0) (.lit 508006270258)) (.leaf (.int .i64 (.lit 46)))
 (.node (.cmp .eql (.var 0) (.lit 438206743842)) (.leaf (.int .i64 (.lit 47)))
 (.node (.cmp .eql (.var 0) (.lit 119367874815904)) (.leaf (.int .i64 (.lit 48)))
 (.node (.cmp .eql (.var 0) (.lit 119350424934300)) (.leaf (.int .i64 (.lit 49)))
 (.node (.cmp .eql (.var 0) (.lit 119280625407884)) (.leaf (.int .i64 (.lit 50)))
 (.node (.cmp .eql (.var 0) (.lit 7229777)) (.leaf (.int .i64 (.lit 51)))
 (.node (.cmp .eql (.var 0) (.lit 1789562042)) (.leaf (.int .i64 (.lit 52)))
 (.node (.cmp .eql (.var 0) (.lit 132804113509284)) (.leaf (.int .i64 (.lit 53)))
 (.node (.cmp .eql (.var 0) (.lit 516561069360)) (.leaf (.int .i64 (.lit 54)))
 (.node (.cmp .eql (.var 0) (.lit 7887174)) (.leaf (.int .i64 (.lit 55)))
 (.node (.cmp .eql (.var 0) (.lit 2010889148)) (.leaf (.int .i64 (.lit 56)))
 (.node (.cmp .eql (.var 0) (.lit 7291719)) (.leaf (.int .i64 (.lit 57)))
 (.node (.cmp .eql (.var 0) (.lit 2010293693)) (.leaf (.int .i64 (.lit 58)))
 (.node (.cmp .eql (.var 0) (.lit 2040085127)) (.leaf (.int .i64 (.lit 59)))
 (.node (.cmp .eql (.var 0) (.lit 2040081279)) (.leaf (.int .i64 (.lit 60)))
 .dead))))))))))))))))))))))))))))))))))))))))))))))))))))))))))))
theorem r3_0k0 : r3_0c0.ok 0 M3 spc3 = true := by kernel_rfl
noncomputable def r3_0M0 : TT (SV × SP) := M3.go [false, false, false, false, false, false, false, false, false, false, false, false, false, false, false, false, false, false, false, false, false, false, false, false, false, false, false, false, false, false, false, false, false, false, false, false, false, false, false, false, false, false, false, false, false, false, false, false, false, false, false, false, false, false, false, false, false, false, false, false]
def r3_0p0 : PC := r3_0c0.pcAt [false, false, false, false, false, false, false, false, false, false, false, false, false, false, false, false, false, false, false, false, false, false, false, false, false, false, false, false, false, false, false, false, false, false, false, false, false, false, false, false, false, false, false, false, false, false, false, false, false, false, false, false, false, false, false, false, false, false, false, false] spc3
def r3_1c0 : RT := (.node (.cmp .eql (.var 0) (.lit 2287250834308015335078)) (.leaf (.int .i64 (.lit 61)))
 (.node (.cmp .eql (.var 0) (.lit 8899795252660495891)) (.leaf (.int .i64 (.lit 62)))
 (.node (.cmp .eql (.var 0) (.lit 8899810997206588739)) (.leaf (.int .i64 (.lit 63)))
 (.node (.cmp .eql (.var 0) (.lit 8899795296285199901)) (.leaf (.int .i64 (.lit 64)))
 (.node (.cmp .eql (.var 0) (.lit 34629614774527946)) (.leaf (.int .i64 (.lit 65)))
 (.node (.cmp .eql (.var 0) (.lit 8899806486225473582)) (.leaf (.int .i64 (.lit 66)))
 (.node (.cmp .eql (.var 0) (.lit 8899817662874640944)) (.leaf (.int .i64 (.lit 67)))
 (.node (.cmp .eql (.var 0) (.lit 2287252289505890089892)) (.leaf (.int .i64 (.lit 68)))
 (.node (.cmp .eql (.var 0) (.lit 2287252300682539257254)) (.leaf (.int .i64 (.lit 69)))
 (.leaf (.int .i64 (.lit 0))))))))))))
theorem r3_1k0 : r3_1c0.ok 0 r3_0M0 r3_0p0 = true := by kernel_rfl
def r3_0c1 : RT := r3_0c0.plug [false, false, false, false, false, false, false, false, false, false, false, false, false, false, false, false, false, false, false, false, false, false, false, false, false, false, false, false, false, false, false, false, false, false, false, false, false, false, false, false, false, false, false, false, false, false, false, false, false, false, false, false, false, false, false, false, false, false, false, false] r3_1c0
theorem r3_0k1 : r3_0c1.ok 0 M3 spc3 = true := RT.ok_plug (p := [false, false, false, false, false, false, false, false, false, false, false, false, false, false, false, false, false, false, false, false, false, false, false, false, false, false, false, false, false, false, false, false, false, false, false, false, false, false, false, false, false, false, false, false, false, false, false, false, false, false, false, false, false, false, false, false, false, false, false, false]) r3_0k0 r3_1k0
def sm3 : Sm := ⟨[(false, [.str])], false, r3_0c1⟩
theorem sv3 (G : Nat → Option Nat) (D : Hp) : SmValid Tryd.prog (GofSm G sm3) (DofSm D sm3) 18 sm3 := smValid0 (T := T3) (fuel := 2000) mixed hF (VT3 _ _) rfl r3_0k1
def T4 : List (Nat × List Sm) := []
theorem VT4 (G : Nat → Option Nat) (D : Hp) : AllV Tryd.prog G D T4 := trivial
noncomputable def M4 : TT (SV × SP) := evFnD (cfgT F (fun _ => none) hpE T4) 2000 18 (patAs 0 [(false, [(.lit (.str ⟨#[108, 117, 105]⟩))])]) ⟨hpE, []⟩
def spc4 : PC := []
def r4_0c0 : RT := (.leaf (.int .i64 (.lit 1)))
theorem r4_0k0 : r4_0c0.ok 0 M4 spc4 = true := by kernel_rfl
def sm4 : Sm := ⟨[(false, [(.lit (.str ⟨#[108, 117, 105]⟩))])], false, r4_0c0⟩
theorem sv4 (G : Nat → Option Nat) (D : Hp) : SmValid Tryd.prog (GofSm G sm4) (DofSm D sm4) 18 sm4 := smValid0 (T := T4) (fuel := 2000) mixed hF (VT4 _ _) rfl r4_0k0
def T5 : List (Nat × List Sm) := []
theorem VT5 (G : Nat → Option Nat) (D : Hp) : AllV Tryd.prog G D T5 := trivial
noncomputable def M5 : TT (SV × SP) := evFnD (cfgT F (fun _ => none) hpE T5) 2000 18 (patAs 0 [(false, [(.lit (.str ⟨#[97, 117, 105, 112, 99]⟩))])]) ⟨hpE, []⟩
def spc5 : PC := []
def r5_0c0 : RT := (.leaf (.int .i64 (.lit 2)))
theorem r5_0k0 : r5_0c0.ok 0 M5 spc5 = true := by kernel_rfl
def sm5 : Sm := ⟨[(false, [(.lit (.str ⟨#[97, 117, 105, 112, 99]⟩))])], false, r5_0c0⟩
theorem sv5 (G : Nat → Option Nat) (D : Hp) : SmValid Tryd.prog (GofSm G sm5) (DofSm D sm5) 18 sm5 := smValid0 (T := T5) (fuel := 2000) mixed hF (VT5 _ _) rfl r5_0k0
def T6 : List (Nat × List Sm) := []
theorem VT6 (G : Nat → Option Nat) (D : Hp) : AllV Tryd.prog G D T6 := trivial
noncomputable def M6 : TT (SV × SP) := evFnD (cfgT F (fun _ => none) hpE T6) 2000 18 (patAs 0 [(false, [(.lit (.str ⟨#[106, 97, 108]⟩))])]) ⟨hpE, []⟩
def spc6 : PC := []
def r6_0c0 : RT := (.leaf (.int .i64 (.lit 3)))
theorem r6_0k0 : r6_0c0.ok 0 M6 spc6 = true := by kernel_rfl
def sm6 : Sm := ⟨[(false, [(.lit (.str ⟨#[106, 97, 108]⟩))])], false, r6_0c0⟩
theorem sv6 (G : Nat → Option Nat) (D : Hp) : SmValid Tryd.prog (GofSm G sm6) (DofSm D sm6) 18 sm6 := smValid0 (T := T6) (fuel := 2000) mixed hF (VT6 _ _) rfl r6_0k0
def T7 : List (Nat × List Sm) := []
theorem VT7 (G : Nat → Option Nat) (D : Hp) : AllV Tryd.prog G D T7 := trivial
noncomputable def M7 : TT (SV × SP) := evFnD (cfgT F (fun _ => none) hpE T7) 2000 18 (patAs 0 [(false, [(.lit (.str ⟨#[106, 97, 108, 114]⟩))])]) ⟨hpE, []⟩
def spc7 : PC := []
def r7_0c0 : RT := (.leaf (.int .i64 (.lit 4)))
theorem r7_0k0 : r7_0c0.ok 0 M7 spc7 = true := by kernel_rfl
def sm7 : Sm := ⟨[(false, [(.lit (.str ⟨#[106, 97, 108, 114]⟩))])], false, r7_0c0⟩
theorem sv7 (G : Nat → Option Nat) (D : Hp) : SmValid Tryd.prog (GofSm G sm7) (DofSm D sm7) 18 sm7 := smValid0 (T := T7) (fuel := 2000) mixed hF (VT7 _ _) rfl r7_0k0
def T8 : List (Nat × List Sm) := []
theorem VT8 (G : Nat → Option Nat) (D : Hp) : AllV Tryd.prog G D T8 := trivial
noncomputable def M8 : TT (SV × SP) := evFnD (cfgT F (fun _ => none) hpE T8) 2000 18 (patAs 0 [(false, [(.lit (.str ⟨#[98, 101, 113]⟩))])]) ⟨hpE, []⟩
def spc8 : PC := []
def r8_0c0 : RT := (.leaf (.int .i64 (.lit 5)))
theorem r8_0k0 : r8_0c0.ok 0 M8 spc8 = true := by kernel_rfl
def sm8 : Sm := ⟨[(false, [(.lit (.str ⟨#[98, 101, 113]⟩))])], false, r8_0c0⟩
theorem sv8 (G : Nat → Option Nat) (D : Hp) : SmValid Tryd.prog (GofSm G sm8) (DofSm D sm8) 18 sm8 := smValid0 (T := T8) (fuel := 2000) mixed hF (VT8 _ _) rfl r8_0k0
def T9 : List (Nat × List Sm) := []
theorem VT9 (G : Nat → Option Nat) (D : Hp) : AllV Tryd.prog G D T9 := trivial
noncomputable def M9 : TT (SV × SP) := evFnD (cfgT F (fun _ => none) hpE T9) 2000 18 (patAs 0 [(false, [(.lit (.str ⟨#[98, 110, 101]⟩))])]) ⟨hpE, []⟩
def spc9 : PC := []
def r9_0c0 : RT := (.leaf (.int .i64 (.lit 6)))
theorem r9_0k0 : r9_0c0.ok 0 M9 spc9 = true := by kernel_rfl
def sm9 : Sm := ⟨[(false, [(.lit (.str ⟨#[98, 110, 101]⟩))])], false, r9_0c0⟩
theorem sv9 (G : Nat → Option Nat) (D : Hp) : SmValid Tryd.prog (GofSm G sm9) (DofSm D sm9) 18 sm9 := smValid0 (T := T9) (fuel := 2000) mixed hF (VT9 _ _) rfl r9_0k0
def T10 : List (Nat × List Sm) := []
theorem VT10 (G : Nat → Option Nat) (D : Hp) : AllV Tryd.prog G D T10 := trivial
noncomputable def M10 : TT (SV × SP) := evFnD (cfgT F (fun _ => none) hpE T10) 2000 18 (patAs 0 [(false, [(.lit (.str ⟨#[98, 108, 116]⟩))])]) ⟨hpE, []⟩
def spc10 : PC := []
def r10_0c0 : RT := (.leaf (.int .i64 (.lit 7)))
theorem r10_0k0 : r10_0c0.ok 0 M10 spc10 = true := by kernel_rfl
def sm10 : Sm := ⟨[(false, [(.lit (.str ⟨#[98, 108, 116]⟩))])], false, r10_0c0⟩
theorem sv10 (G : Nat → Option Nat) (D : Hp) : SmValid Tryd.prog (GofSm G sm10) (DofSm D sm10) 18 sm10 := smValid0 (T := T10) (fuel := 2000) mixed hF (VT10 _ _) rfl r10_0k0
def T11 : List (Nat × List Sm) := []
theorem VT11 (G : Nat → Option Nat) (D : Hp) : AllV Tryd.prog G D T11 := trivial
noncomputable def M11 : TT (SV × SP) := evFnD (cfgT F (fun _ => none) hpE T11) 2000 18 (patAs 0 [(false, [(.lit (.str ⟨#[98, 103, 101]⟩))])]) ⟨hpE, []⟩
def spc11 : PC := []
def r11_0c0 : RT := (.leaf (.int .i64 (.lit 8)))
theorem r11_0k0 : r11_0c0.ok 0 M11 spc11 = true := by kernel_rfl
def sm11 : Sm := ⟨[(false, [(.lit (.str ⟨#[98, 103, 101]⟩))])], false, r11_0c0⟩
theorem sv11 (G : Nat → Option Nat) (D : Hp) : SmValid Tryd.prog (GofSm G sm11) (DofSm D sm11) 18 sm11 := smValid0 (T := T11) (fuel := 2000) mixed hF (VT11 _ _) rfl r11_0k0
def T12 : List (Nat × List Sm) := []
theorem VT12 (G : Nat → Option Nat) (D : Hp) : AllV Tryd.prog G D T12 := trivial
noncomputable def M12 : TT (SV × SP) := evFnD (cfgT F (fun _ => none) hpE T12) 2000 18 (patAs 0 [(false, [(.lit (.str ⟨#[98, 108, 116, 117]⟩))])]) ⟨hpE, []⟩
def spc12 : PC := []
def r12_0c0 : RT := (.leaf (.int .i64 (.lit 9)))
theorem r12_0k0 : r12_0c0.ok 0 M12 spc12 = true := by kernel_rfl
def sm12 : Sm := ⟨[(false, [(.lit (.str ⟨#[98, 108, 116, 117]⟩))])], false, r12_0c0⟩
theorem sv12 (G : Nat → Option Nat) (D : Hp) : SmValid Tryd.prog (GofSm G sm12) (DofSm D sm12) 18 sm12 := smValid0 (T := T12) (fuel := 2000) mixed hF (VT12 _ _) rfl r12_0k0
def T13 : List (Nat × List Sm) := []
theorem VT13 (G : Nat → Option Nat) (D : Hp) : AllV Tryd.prog G D T13 := trivial
noncomputable def M13 : TT (SV × SP) := evFnD (cfgT F (fun _ => none) hpE T13) 2000 18 (patAs 0 [(false, [(.lit (.str ⟨#[98, 103, 101, 117]⟩))])]) ⟨hpE, []⟩
def spc13 : PC := []
def r13_0c0 : RT := (.leaf (.int .i64 (.lit 10)))
theorem r13_0k0 : r13_0c0.ok 0 M13 spc13 = true := by kernel_rfl
def sm13 : Sm := ⟨[(false, [(.lit (.str ⟨#[98, 103, 101, 117]⟩))])], false, r13_0c0⟩
theorem sv13 (G : Nat → Option Nat) (D : Hp) : SmValid Tryd.prog (GofSm G sm13) (DofSm D sm13) 18 sm13 := smValid0 (T := T13) (fuel := 2000) mixed hF (VT13 _ _) rfl r13_0k0
def T14 : List (Nat × List Sm) := []
theorem VT14 (G : Nat → Option Nat) (D : Hp) : AllV Tryd.prog G D T14 := trivial
noncomputable def M14 : TT (SV × SP) := evFnD (cfgT F (fun _ => none) hpE T14) 2000 18 (patAs 0 [(false, [(.lit (.str ⟨#[108, 98]⟩))])]) ⟨hpE, []⟩
def spc14 : PC := []
def r14_0c0 : RT := (.leaf (.int .i64 (.lit 11)))
theorem r14_0k0 : r14_0c0.ok 0 M14 spc14 = true := by kernel_rfl
def sm14 : Sm := ⟨[(false, [(.lit (.str ⟨#[108, 98]⟩))])], false, r14_0c0⟩
theorem sv14 (G : Nat → Option Nat) (D : Hp) : SmValid Tryd.prog (GofSm G sm14) (DofSm D sm14) 18 sm14 := smValid0 (T := T14) (fuel := 2000) mixed hF (VT14 _ _) rfl r14_0k0
def T15 : List (Nat × List Sm) := []
theorem VT15 (G : Nat → Option Nat) (D : Hp) : AllV Tryd.prog G D T15 := trivial
noncomputable def M15 : TT (SV × SP) := evFnD (cfgT F (fun _ => none) hpE T15) 2000 18 (patAs 0 [(false, [(.lit (.str ⟨#[108, 104]⟩))])]) ⟨hpE, []⟩
def spc15 : PC := []
def r15_0c0 : RT := (.leaf (.int .i64 (.lit 12)))
theorem r15_0k0 : r15_0c0.ok 0 M15 spc15 = true := by kernel_rfl
def sm15 : Sm := ⟨[(false, [(.lit (.str ⟨#[108, 104]⟩))])], false, r15_0c0⟩
theorem sv15 (G : Nat → Option Nat) (D : Hp) : SmValid Tryd.prog (GofSm G sm15) (DofSm D sm15) 18 sm15 := smValid0 (T := T15) (fuel := 2000) mixed hF (VT15 _ _) rfl r15_0k0
def T16 : List (Nat × List Sm) := []
theorem VT16 (G : Nat → Option Nat) (D : Hp) : AllV Tryd.prog G D T16 := trivial
noncomputable def M16 : TT (SV × SP) := evFnD (cfgT F (fun _ => none) hpE T16) 2000 18 (patAs 0 [(false, [(.lit (.str ⟨#[108, 119]⟩))])]) ⟨hpE, []⟩
def spc16 : PC := []
def r16_0c0 : RT := (.leaf (.int .i64 (.lit 13)))
theorem r16_0k0 : r16_0c0.ok 0 M16 spc16 = true := by kernel_rfl
def sm16 : Sm := ⟨[(false, [(.lit (.str ⟨#[108, 119]⟩))])], false, r16_0c0⟩
theorem sv16 (G : Nat → Option Nat) (D : Hp) : SmValid Tryd.prog (GofSm G sm16) (DofSm D sm16) 18 sm16 := smValid0 (T := T16) (fuel := 2000) mixed hF (VT16 _ _) rfl r16_0k0
def T17 : List (Nat × List Sm) := []
theorem VT17 (G : Nat → Option Nat) (D : Hp) : AllV Tryd.prog G D T17 := trivial
noncomputable def M17 : TT (SV × SP) := evFnD (cfgT F (fun _ => none) hpE T17) 2000 18 (patAs 0 [(false, [(.lit (.str ⟨#[108, 98, 117]⟩))])]) ⟨hpE, []⟩
def spc17 : PC := []
def r17_0c0 : RT := (.leaf (.int .i64 (.lit 14)))
theorem r17_0k0 : r17_0c0.ok 0 M17 spc17 = true := by kernel_rfl
def sm17 : Sm := ⟨[(false, [(.lit (.str ⟨#[108, 98, 117]⟩))])], false, r17_0c0⟩
theorem sv17 (G : Nat → Option Nat) (D : Hp) : SmValid Tryd.prog (GofSm G sm17) (DofSm D sm17) 18 sm17 := smValid0 (T := T17) (fuel := 2000) mixed hF (VT17 _ _) rfl r17_0k0
def T18 : List (Nat × List Sm) := []
theorem VT18 (G : Nat → Option Nat) (D : Hp) : AllV Tryd.prog G D T18 := trivial
noncomputable def M18 : TT (SV × SP) := evFnD (cfgT F (fun _ => none) hpE T18) 2000 18 (patAs 0 [(false, [(.lit (.str ⟨#[108, 104, 117]⟩))])]) ⟨hpE, []⟩
def spc18 : PC := []
def r18_0c0 : RT := (.leaf (.int .i64 (.lit 15)))
theorem r18_0k0 : r18_0c0.ok 0 M18 spc18 = true := by kernel_rfl
def sm18 : Sm := ⟨[(false, [(.lit (.str ⟨#[108, 104, 117]⟩))])], false, r18_0c0⟩
theorem sv18 (G : Nat → Option Nat) (D : Hp) : SmValid Tryd.prog (GofSm G sm18) (DofSm D sm18) 18 sm18 := smValid0 (T := T18) (fuel := 2000) mixed hF (VT18 _ _) rfl r18_0k0
def T19 : List (Nat × List Sm) := []
theorem VT19 (G : Nat → Option Nat) (D : Hp) : AllV Tryd.prog G D T19 := trivial
noncomputable def M19 : TT (SV × SP) := evFnD (cfgT F (fun _ => none) hpE T19) 2000 18 (patAs 0 [(false, [(.lit (.str ⟨#[115, 98]⟩))])]) ⟨hpE, []⟩
def spc19 : PC := []
def r19_0c0 : RT := (.leaf (.int .i64 (.lit 16)))
theorem r19_0k0 : r19_0c0.ok 0 M19 spc19 = true := by kernel_rfl
def sm19 : Sm := ⟨[(false, [(.lit (.str ⟨#[115, 98]⟩))])], false, r19_0c0⟩
theorem sv19 (G : Nat → Option Nat) (D : Hp) : SmValid Tryd.prog (GofSm G sm19) (DofSm D sm19) 18 sm19 := smValid0 (T := T19) (fuel := 2000) mixed hF (VT19 _ _) rfl r19_0k0
def T20 : List (Nat × List Sm) := []
theorem VT20 (G : Nat → Option Nat) (D : Hp) : AllV Tryd.prog G D T20 := trivial
noncomputable def M20 : TT (SV × SP) := evFnD (cfgT F (fun _ => none) hpE T20) 2000 18 (patAs 0 [(false, [(.lit (.str ⟨#[115, 104]⟩))])]) ⟨hpE, []⟩
def spc20 : PC := []
def r20_0c0 : RT := (.leaf (.int .i64 (.lit 17)))
theorem r20_0k0 : r20_0c0.ok 0 M20 spc20 = true := by kernel_rfl
def sm20 : Sm := ⟨[(false, [(.lit (.str ⟨#[115, 104]⟩))])], false, r20_0c0⟩
theorem sv20 (G : Nat → Option Nat) (D : Hp) : SmValid Tryd.prog (GofSm G sm20) (DofSm D sm20) 18 sm20 := smValid0 (T := T20) (fuel := 2000) mixed hF (VT20 _ _) rfl r20_0k0
def T21 : List (Nat × List Sm) := []
theorem VT21 (G : Nat → Option Nat) (D : Hp) : AllV Tryd.prog G D T21 := trivial
noncomputable def M21 : TT (SV × SP) := evFnD (cfgT F (fun _ => none) hpE T21) 2000 18 (patAs 0 [(false, [(.lit (.str ⟨#[115, 119]⟩))])]) ⟨hpE, []⟩
def spc21 : PC := []
def r21_0c0 : RT := (.leaf (.int .i64 (.lit 18)))
theorem r21_0k0 : r21_0c0.ok 0 M21 spc21 = true := by kernel_rfl
def sm21 : Sm := ⟨[(false, [(.lit (.str ⟨#[115, 119]⟩))])], false, r21_0c0⟩
theorem sv21 (G : Nat → Option Nat) (D : Hp) : SmValid Tryd.prog (GofSm G sm21) (DofSm D sm21) 18 sm21 := smValid0 (T := T21) (fuel := 2000) mixed hF (VT21 _ _) rfl r21_0k0
def T22 : List (Nat × List Sm) := []
theorem VT22 (G : Nat → Option Nat) (D : Hp) : AllV Tryd.prog G D T22 := trivial
noncomputable def M22 : TT (SV × SP) := evFnD (cfgT F (fun _ => none) hpE T22) 2000 18 (patAs 0 [(false, [(.lit (.str ⟨#[97, 100, 100, 105]⟩))])]) ⟨hpE, []⟩
def spc22 : PC := []
def r22_0c0 : RT := (.leaf (.int .i64 (.lit 19)))
theorem r22_0k0 : r22_0c0.ok 0 M22 spc22 = true := by kernel_rfl
def sm22 : Sm := ⟨[(false, [(.lit (.str ⟨#[97, 100, 100, 105]⟩))])], false, r22_0c0⟩
theorem sv22 (G : Nat → Option Nat) (D : Hp) : SmValid Tryd.prog (GofSm G sm22) (DofSm D sm22) 18 sm22 := smValid0 (T := T22) (fuel := 2000) mixed hF (VT22 _ _) rfl r22_0k0
def T23 : List (Nat × List Sm) := []
theorem VT23 (G : Nat → Option Nat) (D : Hp) : AllV Tryd.prog G D T23 := trivial
noncomputable def M23 : TT (SV × SP) := evFnD (cfgT F (fun _ => none) hpE T23) 2000 18 (patAs 0 [(false, [(.lit (.str ⟨#[115, 108, 116, 105]⟩))])]) ⟨hpE, []⟩
def spc23 : PC := []
def r23_0c0 : RT := (.leaf (.int .i64 (.lit 20)))
theorem r23_0k0 : r23_0c0.ok 0 M23 spc23 = true := by kernel_rfl
def sm23 : Sm := ⟨[(false, [(.lit (.str ⟨#[115, 108, 116, 105]⟩))])], false, r23_0c0⟩
theorem sv23 (G : Nat → Option Nat) (D : Hp) : SmValid Tryd.prog (GofSm G sm23) (DofSm D sm23) 18 sm23 := smValid0 (T := T23) (fuel := 2000) mixed hF (VT23 _ _) rfl r23_0k0
def T24 : List (Nat × List Sm) := []
theorem VT24 (G : Nat → Option Nat) (D : Hp) : AllV Tryd.prog G D T24 := trivial
noncomputable def M24 : TT (SV × SP) := evFnD (cfgT F (fun _ => none) hpE T24) 2000 18 (patAs 0 [(false, [(.lit (.str ⟨#[115, 108, 116, 105, 117]⟩))])]) ⟨hpE, []⟩
def spc24 : PC := []
def r24_0c0 : RT := (.leaf (.int .i64 (.lit 21)))
theorem r24_0k0 : r24_0c0.ok 0 M24 spc24 = true := by kernel_rfl
def sm24 : Sm := ⟨[(false, [(.lit (.str ⟨#[115, 108, 116, 105, 117]⟩))])], false, r24_0c0⟩
theorem sv24 (G : Nat → Option Nat) (D : Hp) : SmValid Tryd.prog (GofSm G sm24) (DofSm D sm24) 18 sm24 := smValid0 (T := T24) (fuel := 2000) mixed hF (VT24 _ _) rfl r24_0k0
def T25 : List (Nat × List Sm) := []
theorem VT25 (G : Nat → Option Nat) (D : Hp) : AllV Tryd.prog G D T25 := trivial
noncomputable def M25 : TT (SV × SP) := evFnD (cfgT F (fun _ => none) hpE T25) 2000 18 (patAs 0 [(false, [(.lit (.str ⟨#[120, 111, 114, 105]⟩))])]) ⟨hpE, []⟩
def spc25 : PC := []
def r25_0c0 : RT := (.leaf (.int .i64 (.lit 22)))
theorem r25_0k0 : r25_0c0.ok 0 M25 spc25 = true := by kernel_rfl
def sm25 : Sm := ⟨[(false, [(.lit (.str ⟨#[120, 111, 114, 105]⟩))])], false, r25_0c0⟩
theorem sv25 (G : Nat → Option Nat) (D : Hp) : SmValid Tryd.prog (GofSm G sm25) (DofSm D sm25) 18 sm25 := smValid0 (T := T25) (fuel := 2000) mixed hF (VT25 _ _) rfl r25_0k0
def T26 : List (Nat × List Sm) := []
theorem VT26 (G : Nat → Option Nat) (D : Hp) : AllV Tryd.prog G D T26 := trivial
noncomputable def M26 : TT (SV × SP) := evFnD (cfgT F (fun _ => none) hpE T26) 2000 18 (patAs 0 [(false, [(.lit (.str ⟨#[111, 114, 105]⟩))])]) ⟨hpE, []⟩
def spc26 : PC := []
def r26_0c0 : RT := (.leaf (.int .i64 (.lit 23)))
theorem r26_0k0 : r26_0c0.ok 0 M26 spc26 = true := by kernel_rfl
def sm26 : Sm := ⟨[(false, [(.lit (.str ⟨#[111, 114, 105]⟩))])], false, r26_0c0⟩
theorem sv26 (G : Nat → Option Nat) (D : Hp) : SmValid Tryd.prog (GofSm G sm26) (DofSm D sm26) 18 sm26 := smValid0 (T := T26) (fuel := 2000) mixed hF (VT26 _ _) rfl r26_0k0
def T27 : List (Nat × List Sm) := []
theorem VT27 (G : Nat → Option Nat) (D : Hp) : AllV Tryd.prog G D T27 := trivial
noncomputable def M27 : TT (SV × SP) := evFnD (cfgT F (fun _ => none) hpE T27) 2000 18 (patAs 0 [(false, [(.lit (.str ⟨#[97, 110, 100, 105]⟩))])]) ⟨hpE, []⟩
def spc27 : PC := []
def r27_0c0 : RT := (.leaf (.int .i64 (.lit 24)))
theorem r27_0k0 : r27_0c0.ok 0 M27 spc27 = true := by kernel_rfl
def sm27 : Sm := ⟨[(false, [(.lit (.str ⟨#[97, 110, 100, 105]⟩))])], false, r27_0c0⟩
theorem sv27 (G : Nat → Option Nat) (D : Hp) : SmValid Tryd.prog (GofSm G sm27) (DofSm D sm27) 18 sm27 := smValid0 (T := T27) (fuel := 2000) mixed hF (VT27 _ _) rfl r27_0k0
def T28 : List (Nat × List Sm) := []
theorem VT28 (G : Nat → Option Nat) (D : Hp) : AllV Tryd.prog G D T28 := trivial
noncomputable def M28 : TT (SV × SP) := evFnD (cfgT F (fun _ => none) hpE T28) 2000 18 (patAs 0 [(false, [(.lit (.str ⟨#[115, 108, 108, 105]⟩))])]) ⟨hpE, []⟩
def spc28 : PC := []
def r28_0c0 : RT := (.leaf (.int .i64 (.lit 25)))
theorem r28_0k0 : r28_0c0.ok 0 M28 spc28 = true := by kernel_rfl
def sm28 : Sm := ⟨[(false, [(.lit (.str ⟨#[115, 108, 108, 105]⟩))])], false, r28_0c0⟩
theorem sv28 (G : Nat → Option Nat) (D : Hp) : SmValid Tryd.prog (GofSm G sm28) (DofSm D sm28) 18 sm28 := smValid0 (T := T28) (fuel := 2000) mixed hF (VT28 _ _) rfl r28_0k0
def T29 : List (Nat × List Sm) := []
theorem VT29 (G : Nat → Option Nat) (D : Hp) : AllV Tryd.prog G D T29 := trivial
noncomputable def M29 : TT (SV × SP) := evFnD (cfgT F (fun _ => none) hpE T29) 2000 18 (patAs 0 [(false, [(.lit (.str ⟨#[115, 114, 108, 105]⟩))])]) ⟨hpE, []⟩
def spc29 : PC := []
def r29_0c0 : RT := (.leaf (.int .i64 (.lit 26)))
theorem r29_0k0 : r29_0c0.ok 0 M29 spc29 = true := by kernel_rfl
def sm29 : Sm := ⟨[(false, [(.lit (.str ⟨#[115, 114, 108, 105]⟩))])], false, r29_0c0⟩
theorem sv29 (G : Nat → Option Nat) (D : Hp) : SmValid Tryd.prog (GofSm G sm29) (DofSm D sm29) 18 sm29 := smValid0 (T := T29) (fuel := 2000) mixed hF (VT29 _ _) rfl r29_0k0
def T30 : List (Nat × List Sm) := []
theorem VT30 (G : Nat → Option Nat) (D : Hp) : AllV Tryd.prog G D T30 := trivial
noncomputable def M30 : TT (SV × SP) := evFnD (cfgT F (fun _ => none) hpE T30) 2000 18 (patAs 0 [(false, [(.lit (.str ⟨#[115, 114, 97, 105]⟩))])]) ⟨hpE, []⟩
def spc30 : PC := []
def r30_0c0 : RT := (.leaf (.int .i64 (.lit 27)))
theorem r30_0k0 : r30_0c0.ok 0 M30 spc30 = true := by kernel_rfl
def sm30 : Sm := ⟨[(false, [(.lit (.str ⟨#[115, 114, 97, 105]⟩))])], false, r30_0c0⟩
theorem sv30 (G : Nat → Option Nat) (D : Hp) : SmValid Tryd.prog (GofSm G sm30) (DofSm D sm30) 18 sm30 := smValid0 (T := T30) (fuel := 2000) mixed hF (VT30 _ _) rfl r30_0k0
def T31 : List (Nat × List Sm) := []
theorem VT31 (G : Nat → Option Nat) (D : Hp) : AllV Tryd.prog G D T31 := trivial
noncomputable def M31 : TT (SV × SP) := evFnD (cfgT F (fun _ => none) hpE T31) 2000 18 (patAs 0 [(false, [(.lit (.str ⟨#[97, 100, 100]⟩))])]) ⟨hpE, []⟩
def spc31 : PC := []
def r31_0c0 : RT := (.leaf (.int .i64 (.lit 28)))
theorem r31_0k0 : r31_0c0.ok 0 M31 spc31 = true := by kernel_rfl
def sm31 : Sm := ⟨[(false, [(.lit (.str ⟨#[97, 100, 100]⟩))])], false, r31_0c0⟩
theorem sv31 (G : Nat → Option Nat) (D : Hp) : SmValid Tryd.prog (GofSm G sm31) (DofSm D sm31) 18 sm31 := smValid0 (T := T31) (fuel := 2000) mixed hF (VT31 _ _) rfl r31_0k0
def T32 : List (Nat × List Sm) := []
theorem VT32 (G : Nat → Option Nat) (D : Hp) : AllV Tryd.prog G D T32 := trivial
noncomputable def M32 : TT (SV × SP) := evFnD (cfgT F (fun _ => none) hpE T32) 2000 18 (patAs 0 [(false, [(.lit (.str ⟨#[115, 117, 98]⟩))])]) ⟨hpE, []⟩
def spc32 : PC := []
def r32_0c0 : RT := (.leaf (.int .i64 (.lit 29)))
theorem r32_0k0 : r32_0c0.ok 0 M32 spc32 = true := by kernel_rfl
def sm32 : Sm := ⟨[(false, [(.lit (.str ⟨#[115, 117, 98]⟩))])], false, r32_0c0⟩
theorem sv32 (G : Nat → Option Nat) (D : Hp) : SmValid Tryd.prog (GofSm G sm32) (DofSm D sm32) 18 sm32 := smValid0 (T := T32) (fuel := 2000) mixed hF (VT32 _ _) rfl r32_0k0
def T33 : List (Nat × List Sm) := []
theorem VT33 (G : Nat → Option Nat) (D : Hp) : AllV Tryd.prog G D T33 := trivial
noncomputable def M33 : TT (SV × SP) := evFnD (cfgT F (fun _ => none) hpE T33) 2000 18 (patAs 0 [(false, [(.lit (.str ⟨#[115, 108, 108]⟩))])]) ⟨hpE, []⟩
def spc33 : PC := []
def r33_0c0 : RT := (.leaf (.int .i64 (.lit 30)))
theorem r33_0k0 : r33_0c0.ok 0 M33 spc33 = true := by kernel_rfl
def sm33 : Sm := ⟨[(false, [(.lit (.str ⟨#[115, 108, 108]⟩))])], false, r33_0c0⟩
theorem sv33 (G : Nat → Option Nat) (D : Hp) : SmValid Tryd.prog (GofSm G sm33) (DofSm D sm33) 18 sm33 := smValid0 (T := T33) (fuel := 2000) mixed hF (VT33 _ _) rfl r33_0k0
def T34 : List (Nat × List Sm) := []
theorem VT34 (G : Nat → Option Nat) (D : Hp) : AllV Tryd.prog G D T34 := trivial
noncomputable def M34 : TT (SV × SP) := evFnD (cfgT F (fun _ => none) hpE T34) 2000 18 (patAs 0 [(false, [(.lit (.str ⟨#[115, 108, 116]⟩))])]) ⟨hpE, []⟩
def spc34 : PC := []
def r34_0c0 : RT := (.leaf (.int .i64 (.lit 31)))
theorem r34_0k0 : r34_0c0.ok 0 M34 spc34 = true := by kernel_rfl
def sm34 : Sm := ⟨[(false, [(.lit (.str ⟨#[115, 108, 116]⟩))])], false, r34_0c0⟩
theorem sv34 (G : Nat → Option Nat) (D : Hp) : SmValid Tryd.prog (GofSm G sm34) (DofSm D sm34) 18 sm34 := smValid0 (T := T34) (fuel := 2000) mixed hF (VT34 _ _) rfl r34_0k0
def T35 : List (Nat × List Sm) := []
theorem VT35 (G : Nat → Option Nat) (D : Hp) : AllV Tryd.prog G D T35 := trivial
noncomputable def M35 : TT (SV × SP) := evFnD (cfgT F (fun _ => none) hpE T35) 2000 18 (patAs 0 [(false, [(.lit (.str ⟨#[115, 108, 116, 117]⟩))])]) ⟨hpE, []⟩
def spc35 : PC := []
def r35_0c0 : RT := (.leaf (.int .i64 (.lit 32)))
theorem r35_0k0 : r35_0c0.ok 0 M35 spc35 = true := by kernel_rfl
def sm35 : Sm := ⟨[(false, [(.lit (.str ⟨#[115, 108, 116, 117]⟩))])], false, r35_0c0⟩
theorem sv35 (G : Nat → Option Nat) (D : Hp) : SmValid Tryd.prog (GofSm G sm35) (DofSm D sm35) 18 sm35 := smValid0 (T := T35) (fuel := 2000) mixed hF (VT35 _ _) rfl r35_0k0
def T36 : List (Nat × List Sm) := []
theorem VT36 (G : Nat → Option Nat) (D : Hp) : AllV Tryd.prog G D T36 := trivial
noncomputable def M36 : TT (SV × SP) := evFnD (cfgT F (fun _ => none) hpE T36) 2000 18 (patAs 0 [(false, [(.lit (.str ⟨#[120, 111, 114]⟩))])]) ⟨hpE, []⟩
def spc36 : PC := []
def r36_0c0 : RT := (.leaf (.int .i64 (.lit 33)))
theorem r36_0k0 : r36_0c0.ok 0 M36 spc36 = true := by kernel_rfl
def sm36 : Sm := ⟨[(false, [(.lit (.str ⟨#[120, 111, 114]⟩))])], false, r36_0c0⟩
theorem sv36 (G : Nat → Option Nat) (D : Hp) : SmValid Tryd.prog (GofSm G sm36) (DofSm D sm36) 18 sm36 := smValid0 (T := T36) (fuel := 2000) mixed hF (VT36 _ _) rfl r36_0k0
def T37 : List (Nat × List Sm) := []
theorem VT37 (G : Nat → Option Nat) (D : Hp) : AllV Tryd.prog G D T37 := trivial
noncomputable def M37 : TT (SV × SP) := evFnD (cfgT F (fun _ => none) hpE T37) 2000 18 (patAs 0 [(false, [(.lit (.str ⟨#[115, 114, 108]⟩))])]) ⟨hpE, []⟩
def spc37 : PC := []
def r37_0c0 : RT := (.leaf (.int .i64 (.lit 34)))
theorem r37_0k0 : r37_0c0.ok 0 M37 spc37 = true := by kernel_rfl
def sm37 : Sm := ⟨[(false, [(.lit (.str ⟨#[115, 114, 108]⟩))])], false, r37_0c0⟩
theorem sv37 (G : Nat → Option Nat) (D : Hp) : SmValid Tryd.prog (GofSm G sm37) (DofSm D sm37) 18 sm37 := smValid0 (T := T37) (fuel := 2000) mixed hF (VT37 _ _) rfl r37_0k0
def T38 : List (Nat × List Sm) := []
theorem VT38 (G : Nat → Option Nat) (D : Hp) : AllV Tryd.prog G D T38 := trivial
noncomputable def M38 : TT (SV × SP) := evFnD (cfgT F (fun _ => none) hpE T38) 2000 18 (patAs 0 [(false, [(.lit (.str ⟨#[115, 114, 97]⟩))])]) ⟨hpE, []⟩
def spc38 : PC := []
def r38_0c0 : RT := (.leaf (.int .i64 (.lit 35)))
theorem r38_0k0 : r38_0c0.ok 0 M38 spc38 = true := by kernel_rfl
def sm38 : Sm := ⟨[(false, [(.lit (.str ⟨#[115, 114, 97]⟩))])], false, r38_0c0⟩
theorem sv38 (G : Nat → Option Nat) (D : Hp) : SmValid Tryd.prog (GofSm G sm38) (DofSm D sm38) 18 sm38 := smValid0 (T := T38) (fuel := 2000) mixed hF (VT38 _ _) rfl r38_0k0
def T39 : List (Nat × List Sm) := []
theorem VT39 (G : Nat → Option Nat) (D : Hp) : AllV Tryd.prog G D T39 := trivial
noncomputable def M39 : TT (SV × SP) := evFnD (cfgT F (fun _ => none) hpE T39) 2000 18 (patAs 0 [(false, [(.lit (.str ⟨#[111, 114]⟩))])]) ⟨hpE, []⟩
def spc39 : PC := []
def r39_0c0 : RT := (.leaf (.int .i64 (.lit 36)))
theorem r39_0k0 : r39_0c0.ok 0 M39 spc39 = true := by kernel_rfl
def sm39 : Sm := ⟨[(false, [(.lit (.str ⟨#[111, 114]⟩))])], false, r39_0c0⟩
theorem sv39 (G : Nat → Option Nat) (D : Hp) : SmValid Tryd.prog (GofSm G sm39) (DofSm D sm39) 18 sm39 := smValid0 (T := T39) (fuel := 2000) mixed hF (VT39 _ _) rfl r39_0k0
def T40 : List (Nat × List Sm) := []
theorem VT40 (G : Nat → Option Nat) (D : Hp) : AllV Tryd.prog G D T40 := trivial
noncomputable def M40 : TT (SV × SP) := evFnD (cfgT F (fun _ => none) hpE T40) 2000 18 (patAs 0 [(false, [(.lit (.str ⟨#[97, 110, 100]⟩))])]) ⟨hpE, []⟩
def spc40 : PC := []
def r40_0c0 : RT := (.leaf (.int .i64 (.lit 37)))
theorem r40_0k0 : r40_0c0.ok 0 M40 spc40 = true := by kernel_rfl
def sm40 : Sm := ⟨[(false, [(.lit (.str ⟨#[97, 110, 100]⟩))])], false, r40_0c0⟩
theorem sv40 (G : Nat → Option Nat) (D : Hp) : SmValid Tryd.prog (GofSm G sm40) (DofSm D sm40) 18 sm40 := smValid0 (T := T40) (fuel := 2000) mixed hF (VT40 _ _) rfl r40_0k0
def T41 : List (Nat × List Sm) := []
theorem VT41 (G : Nat → Option Nat) (D : Hp) : AllV Tryd.prog G D T41 := trivial
noncomputable def M41 : TT (SV × SP) := evFnD (cfgT F (fun _ => none) hpE T41) 2000 18 (patAs 0 [(false, [(.lit (.str ⟨#[102, 101, 110, 99, 101]⟩))])]) ⟨hpE, []⟩
def spc41 : PC := []
def r41_0c0 : RT := (.leaf (.int .i64 (.lit 38)))
theorem r41_0k0 : r41_0c0.ok 0 M41 spc41 = true := by kernel_rfl
def sm41 : Sm := ⟨[(false, [(.lit (.str ⟨#[102, 101, 110, 99, 101]⟩))])], false, r41_0c0⟩
theorem sv41 (G : Nat → Option Nat) (D : Hp) : SmValid Tryd.prog (GofSm G sm41) (DofSm D sm41) 18 sm41 := smValid0 (T := T41) (fuel := 2000) mixed hF (VT41 _ _) rfl r41_0k0
def T42 : List (Nat × List Sm) := []
theorem VT42 (G : Nat → Option Nat) (D : Hp) : AllV Tryd.prog G D T42 := trivial
noncomputable def M42 : TT (SV × SP) := evFnD (cfgT F (fun _ => none) hpE T42) 2000 18 (patAs 0 [(false, [(.lit (.str ⟨#[102, 101, 110, 99, 101, 46, 105]⟩))])]) ⟨hpE, []⟩
def spc42 : PC := []
def r42_0c0 : RT := (.leaf (.int .i64 (.lit 39)))
theorem r42_0k0 : r42_0c0.ok 0 M42 spc42 = true := by kernel_rfl
def sm42 : Sm := ⟨[(false, [(.lit (.str ⟨#[102, 101, 110, 99, 101, 46, 105]⟩))])], false, r42_0c0⟩
theorem sv42 (G : Nat → Option Nat) (D : Hp) : SmValid Tryd.prog (GofSm G sm42) (DofSm D sm42) 18 sm42 := smValid0 (T := T42) (fuel := 2000) mixed hF (VT42 _ _) rfl r42_0k0
def T43 : List (Nat × List Sm) := []
theorem VT43 (G : Nat → Option Nat) (D : Hp) : AllV Tryd.prog G D T43 := trivial
noncomputable def M43 : TT (SV × SP) := evFnD (cfgT F (fun _ => none) hpE T43) 2000 18 (patAs 0 [(false, [(.lit (.str ⟨#[101, 99, 97, 108, 108]⟩))])]) ⟨hpE, []⟩
def spc43 : PC := []
def r43_0c0 : RT := (.leaf (.int .i64 (.lit 40)))
theorem r43_0k0 : r43_0c0.ok 0 M43 spc43 = true := by kernel_rfl
def sm43 : Sm := ⟨[(false, [(.lit (.str ⟨#[101, 99, 97, 108, 108]⟩))])], false, r43_0c0⟩
theorem sv43 (G : Nat → Option Nat) (D : Hp) : SmValid Tryd.prog (GofSm G sm43) (DofSm D sm43) 18 sm43 := smValid0 (T := T43) (fuel := 2000) mixed hF (VT43 _ _) rfl r43_0k0
def T44 : List (Nat × List Sm) := []
theorem VT44 (G : Nat → Option Nat) (D : Hp) : AllV Tryd.prog G D T44 := trivial
noncomputable def M44 : TT (SV × SP) := evFnD (cfgT F (fun _ => none) hpE T44) 2000 18 (patAs 0 [(false, [(.lit (.str ⟨#[101, 98, 114, 101, 97, 107]⟩))])]) ⟨hpE, []⟩
def spc44 : PC := []
def r44_0c0 : RT := (.leaf (.int .i64 (.lit 41)))
theorem r44_0k0 : r44_0c0.ok 0 M44 spc44 = true := by kernel_rfl
def sm44 : Sm := ⟨[(false, [(.lit (.str ⟨#[101, 98, 114, 101, 97, 107]⟩))])], false, r44_0c0⟩
theorem sv44 (G : Nat → Option Nat) (D : Hp) : SmValid Tryd.prog (GofSm G sm44) (DofSm D sm44) 18 sm44 := smValid0 (T := T44) (fuel := 2000) mixed hF (VT44 _ _) rfl r44_0k0
def T45 : List (Nat × List Sm) := []
theorem VT45 (G : Nat → Option Nat) (D : Hp) : AllV Tryd.prog G D T45 := trivial
noncomputable def M45 : TT (SV × SP) := evFnD (cfgT F (fun _ => none) hpE T45) 2000 18 (patAs 0 [(false, [(.lit (.str ⟨#[109, 114, 101, 116]⟩))])]) ⟨hpE, []⟩
def spc45 : PC := []
def r45_0c0 : RT := (.leaf (.int .i64 (.lit 42)))
theorem r45_0k0 : r45_0c0.ok 0 M45 spc45 = true := by kernel_rfl
def sm45 : Sm := ⟨[(false, [(.lit (.str ⟨#[109, 114, 101, 116]⟩))])], false, r45_0c0⟩
theorem sv45 (G : Nat → Option Nat) (D : Hp) : SmValid Tryd.prog (GofSm G sm45) (DofSm D sm45) 18 sm45 := smValid0 (T := T45) (fuel := 2000) mixed hF (VT45 _ _) rfl r45_0k0
def T46 : List (Nat × List Sm) := []
theorem VT46 (G : Nat → Option Nat) (D : Hp) : AllV Tryd.prog G D T46 := trivial
noncomputable def M46 : TT (SV × SP) := evFnD (cfgT F (fun _ => none) hpE T46) 2000 18 (patAs 0 [(false, [(.lit (.str ⟨#[119, 102, 105]⟩))])]) ⟨hpE, []⟩
def spc46 : PC := []
def r46_0c0 : RT := (.leaf (.int .i64 (.lit 43)))
theorem r46_0k0 : r46_0c0.ok 0 M46 spc46 = true := by kernel_rfl
def sm46 : Sm := ⟨[(false, [(.lit (.str ⟨#[119, 102, 105]⟩))])], false, r46_0c0⟩
theorem sv46 (G : Nat → Option Nat) (D : Hp) : SmValid Tryd.prog (GofSm G sm46) (DofSm D sm46) 18 sm46 := smValid0 (T := T46) (fuel := 2000) mixed hF (VT46 _ _) rfl r46_0k0
def T47 : List (Nat × List Sm) := []
theorem VT47 (G : Nat → Option Nat) (D : Hp) : AllV Tryd.prog G D T47 := trivial
noncomputable def M47 : TT (SV × SP) := evFnD (cfgT F (fun _ => none) hpE T47) 2000 18 (patAs 0 [(false, [(.lit (.str ⟨#[115, 102, 101, 110, 99, 101, 46, 118, 109, 97]⟩))])]) ⟨hpE, []⟩
def spc47 : PC := []
def r47_0c0 : RT := (.leaf (.int .i64 (.lit 44)))
theorem r47_0k0 : r47_0c0.ok 0 M47 spc47 = true := by kernel_rfl
def sm47 : Sm := ⟨[(false, [(.lit (.str ⟨#[115, 102, 101, 110, 99, 101, 46, 118, 109, 97]⟩))])], false, r47_0c0⟩
theorem sv47 (G : Nat → Option Nat) (D : Hp) : SmValid Tryd.prog (GofSm G sm47) (DofSm D sm47) 18 sm47 := smValid0 (T := T47) (fuel := 2000) mixed hF (VT47 _ _) rfl r47_0k0
def T48 : List (Nat × List Sm) := []
theorem VT48 (G : Nat → Option Nat) (D : Hp) : AllV Tryd.prog G D T48 := trivial
noncomputable def M48 : TT (SV × SP) := evFnD (cfgT F (fun _ => none) hpE T48) 2000 18 (patAs 0 [(false, [(.lit (.str ⟨#[99, 115, 114, 114, 119]⟩))])]) ⟨hpE, []⟩
def spc48 : PC := []
def r48_0c0 : RT := (.leaf (.int .i64 (.lit 45)))
theorem r48_0k0 : r48_0c0.ok 0 M48 spc48 = true := by kernel_rfl
def sm48 : Sm := ⟨[(false, [(.lit (.str ⟨#[99, 115, 114, 114, 119]⟩))])], false, r48_0c0⟩
theorem sv48 (G : Nat → Option Nat) (D : Hp) : SmValid Tryd.prog (GofSm G sm48) (DofSm D sm48) 18 sm48 := smValid0 (T := T48) (fuel := 2000) mixed hF (VT48 _ _) rfl r48_0k0
def T49 : List (Nat × List Sm) := []
theorem VT49 (G : Nat → Option Nat) (D : Hp) : AllV Tryd.prog G D T49 := trivial
noncomputable def M49 : TT (SV × SP) := evFnD (cfgT F (fun _ => none) hpE T49) 2000 18 (patAs 0 [(false, [(.lit (.str ⟨#[99, 115, 114, 114, 115]⟩))])]) ⟨hpE, []⟩
def spc49 : PC := []
def r49_0c0 : RT := (.leaf (.int .i64 (.lit 46)))
theorem r49_0k0 : r49_0c0.ok 0 M49 spc49 = true := by kernel_rfl
def sm49 : Sm := ⟨[(false, [(.lit (.str ⟨#[99, 115, 114, 114, 115]⟩))])], false, r49_0c0⟩
theorem sv49 (G : Nat → Option Nat) (D : Hp) : SmValid Tryd.prog (GofSm G sm49) (DofSm D sm49) 18 sm49 := smValid0 (T := T49) (fuel := 2000) mixed hF (VT49 _ _) rfl r49_0k0
def T50 : List (Nat × List Sm) := []
theorem VT50 (G : Nat → Option Nat) (D : Hp) : AllV Tryd.prog G D T50 := trivial
noncomputable def M50 : TT (SV × SP) := evFnD (cfgT F (fun _ => none) hpE T50) 2000 18 (patAs 0 [(false, [(.lit (.str ⟨#[99, 115, 114, 114, 99]⟩))])]) ⟨hpE, []⟩
def spc50 : PC := []
def r50_0c0 : RT := (.leaf (.int .i64 (.lit 47)))
theorem r50_0k0 : r50_0c0.ok 0 M50 spc50 = true := by kernel_rfl
def sm50 : Sm := ⟨[(false, [(.lit (.str ⟨#[99, 115, 114, 114, 99]⟩))])], false, r50_0c0⟩
theorem sv50 (G : Nat → Option Nat) (D : Hp) : SmValid Tryd.prog (GofSm G sm50) (DofSm D sm50) 18 sm50 := smValid0 (T := T50) (fuel := 2000) mixed hF (VT50 _ _) rfl r50_0k0
def T51 : List (Nat × List Sm) := []
theorem VT51 (G : Nat → Option Nat) (D : Hp) : AllV Tryd.prog G D T51 := trivial
noncomputable def M51 : TT (SV × SP) := evFnD (cfgT F (fun _ => none) hpE T51) 2000 18 (patAs 0 [(false, [(.lit (.str ⟨#[99, 115, 114, 114, 119, 105]⟩))])]) ⟨hpE, []⟩
def spc51 : PC := []
def r51_0c0 : RT := (.leaf (.int .i64 (.lit 48)))
theorem r51_0k0 : r51_0c0.ok 0 M51 spc51 = true := by kernel_rfl
def sm51 : Sm := ⟨[(false, [(.lit (.str ⟨#[99, 115, 114, 114, 119, 105]⟩))])], false, r51_0c0⟩
theorem sv51 (G : Nat → Option Nat) (D : Hp) : SmValid Tryd.prog (GofSm G sm51) (DofSm D sm51) 18 sm51 := smValid0 (T := T51) (fuel := 2000) mixed hF (VT51 _ _) rfl r51_0k0
def T52 : List (Nat × List Sm) := []
theorem VT52 (G : Nat → Option Nat) (D : Hp) : AllV Tryd.prog G D T52 := trivial
noncomputable def M52 : TT (SV × SP) := evFnD (cfgT F (fun _ => none) hpE T52) 2000 18 (patAs 0 [(false, [(.lit (.str ⟨#[99, 115, 114, 114, 115, 105]⟩))])]) ⟨hpE, []⟩
def spc52 : PC := []
def r52_0c0 : RT := (.leaf (.int .i64 (.lit 49)))
theorem r52_0k0 : r52_0c0.ok 0 M52 spc52 = true := by kernel_rfl
def sm52 : Sm := ⟨[(false, [(.lit (.str ⟨#[99, 115, 114, 114, 115, 105]⟩))])], false, r52_0c0⟩
theorem sv52 (G : Nat → Option Nat) (D : Hp) : SmValid Tryd.prog (GofSm G sm52) (DofSm D sm52) 18 sm52 := smValid0 (T := T52) (fuel := 2000) mixed hF (VT52 _ _) rfl r52_0k0
def T53 : List (Nat × List Sm) := []
theorem VT53 (G : Nat → Option Nat) (D : Hp) : AllV Tryd.prog G D T53 := trivial
noncomputable def M53 : TT (SV × SP) := evFnD (cfgT F (fun _ => none) hpE T53) 2000 18 (patAs 0 [(false, [(.lit (.str ⟨#[99, 115, 114, 114, 99, 105]⟩))])]) ⟨hpE, []⟩
def spc53 : PC := []
def r53_0c0 : RT := (.leaf (.int .i64 (.lit 50)))
theorem r53_0k0 : r53_0c0.ok 0 M53 spc53 = true := by kernel_rfl
def sm53 : Sm := ⟨[(false, [(.lit (.str ⟨#[99, 115, 114, 114, 99, 105]⟩))])], false, r53_0c0⟩
theorem sv53 (G : Nat → Option Nat) (D : Hp) : SmValid Tryd.prog (GofSm G sm53) (DofSm D sm53) 18 sm53 := smValid0 (T := T53) (fuel := 2000) mixed hF (VT53 _ _) rfl r53_0k0
def T54 : List (Nat × List Sm) := []
theorem VT54 (G : Nat → Option Nat) (D : Hp) : AllV Tryd.prog G D T54 := trivial
noncomputable def M54 : TT (SV × SP) := evFnD (cfgT F (fun _ => none) hpE T54) 2000 18 (patAs 0 [(false, [(.lit (.str ⟨#[109, 117, 108]⟩))])]) ⟨hpE, []⟩
def spc54 : PC := []
def r54_0c0 : RT := (.leaf (.int .i64 (.lit 51)))
theorem r54_0k0 : r54_0c0.ok 0 M54 spc54 = true := by kernel_rfl
def sm54 : Sm := ⟨[(false, [(.lit (.str ⟨#[109, 117, 108]⟩))])], false, r54_0c0⟩
theorem sv54 (G : Nat → Option Nat) (D : Hp) : SmValid Tryd.prog (GofSm G sm54) (DofSm D sm54) 18 sm54 := smValid0 (T := T54) (fuel := 2000) mixed hF (VT54 _ _) rfl r54_0k0
def T55 : List (Nat × List Sm) := []
theorem VT55 (G : Nat → Option Nat) (D : Hp) : AllV Tryd.prog G D T55 := trivial
noncomputable def M55 : TT (SV × SP) := evFnD (cfgT F (fun _ => none) hpE T55) 2000 18 (patAs 0 [(false, [(.lit (.str ⟨#[109, 117, 108, 104]⟩))])]) ⟨hpE, []⟩
def spc55 : PC := []
def r55_0c0 : RT := (.leaf (.int .i64 (.lit 52)))
theorem r55_0k0 : r55_0c0.ok 0 M55 spc55 = true := by kernel_rfl
def sm55 : Sm := ⟨[(false, [(.lit (.str ⟨#[109, 117, 108, 104]⟩))])], false, r55_0c0⟩
theorem sv55 (G : Nat → Option Nat) (D : Hp) : SmValid Tryd.prog (GofSm G sm55) (DofSm D sm55) 18 sm55 := smValid0 (T := T55) (fuel := 2000) mixed hF (VT55 _ _) rfl r55_0k0
def T56 : List (Nat × List Sm) := []
theorem VT56 (G : Nat → Option Nat) (D : Hp) : AllV Tryd.prog G D T56 := trivial
noncomputable def M56 : TT (SV × SP) := evFnD (cfgT F (fun _ => none) hpE T56) 2000 18 (patAs 0 [(false, [(.lit (.str ⟨#[109, 117, 108, 104, 115, 117]⟩))])]) ⟨hpE, []⟩
def spc56 : PC := []
def r56_0c0 : RT := (.leaf (.int .i64 (.lit 53)))
theorem r56_0k0 : r56_0c0.ok 0 M56 spc56 = true := by kernel_rfl
def sm56 : Sm := ⟨[(false, [(.lit (.str ⟨#[109, 117, 108, 104, 115, 117]⟩))])], false, r56_0c0⟩
theorem sv56 (G : Nat → Option Nat) (D : Hp) : SmValid Tryd.prog (GofSm G sm56) (DofSm D sm56) 18 sm56 := smValid0 (T := T56) (fuel := 2000) mixed hF (VT56 _ _) rfl r56_0k0
def T57 : List (Nat × List Sm) := []
theorem VT57 (G : Nat → Option Nat) (D : Hp) : AllV Tryd.prog G D T57 := trivial
noncomputable def M57 : TT (SV × SP) := evFnD (cfgT F (fun _ => none) hpE T57) 2000 18 (patAs 0 [(false, [(.lit (.str ⟨#[109, 117, 108, 104, 117]⟩))])]) ⟨hpE, []⟩
def spc57 : PC := []
def r57_0c0 : RT := (.leaf (.int .i64 (.lit 54)))
theorem r57_0k0 : r57_0c0.ok 0 M57 spc57 = true := by kernel_rfl
def sm57 : Sm := ⟨[(false, [(.lit (.str ⟨#[109, 117, 108, 104, 117]⟩))])], false, r57_0c0⟩
theorem sv57 (G : Nat → Option Nat) (D : Hp) : SmValid Tryd.prog (GofSm G sm57) (DofSm D sm57) 18 sm57 := smValid0 (T := T57) (fuel := 2000) mixed hF (VT57 _ _) rfl r57_0k0
def T58 : List (Nat × List Sm) := []
theorem VT58 (G : Nat → Option Nat) (D : Hp) : AllV Tryd.prog G D T58 := trivial
noncomputable def M58 : TT (SV × SP) := evFnD (cfgT F (fun _ => none) hpE T58) 2000 18 (patAs 0 [(false, [(.lit (.str ⟨#[100, 105, 118]⟩))])]) ⟨hpE, []⟩
def spc58 : PC := []
def r58_0c0 : RT := (.leaf (.int .i64 (.lit 55)))
theorem r58_0k0 : r58_0c0.ok 0 M58 spc58 = true := by kernel_rfl
def sm58 : Sm := ⟨[(false, [(.lit (.str ⟨#[100, 105, 118]⟩))])], false, r58_0c0⟩
theorem sv58 (G : Nat → Option Nat) (D : Hp) : SmValid Tryd.prog (GofSm G sm58) (DofSm D sm58) 18 sm58 := smValid0 (T := T58) (fuel := 2000) mixed hF (VT58 _ _) rfl r58_0k0
def T59 : List (Nat × List Sm) := []
theorem VT59 (G : Nat → Option Nat) (D : Hp) : AllV Tryd.prog G D T59 := trivial
noncomputable def M59 : TT (SV × SP) := evFnD (cfgT F (fun _ => none) hpE T59) 2000 18 (patAs 0 [(false, [(.lit (.str ⟨#[100, 105, 118, 117]⟩))])]) ⟨hpE, []⟩
def spc59 : PC := []
def r59_0c0 : RT := (.leaf (.int .i64 (.lit 56)))
theorem r59_0k0 : r59_0c0.ok 0 M59 spc59 = true := by kernel_rfl
def sm59 : Sm := ⟨[(false, [(.lit (.str ⟨#[100, 105, 118, 117]⟩))])], false, r59_0c0⟩
theorem sv59 (G : Nat → Option Nat) (D : Hp) : SmValid Tryd.prog (GofSm G sm59) (DofSm D sm59) 18 sm59 := smValid0 (T := T59) (fuel := 2000) mixed hF (VT59 _ _) rfl r59_0k0
def T60 : List (Nat × List Sm) := []
theorem VT60 (G : Nat → Option Nat) (D : Hp) : AllV Tryd.prog G D T60 := trivial
noncomputable def M60 : TT (SV × SP) := evFnD (cfgT F (fun _ => none) hpE T60) 2000 18 (patAs 0 [(false, [(.lit (.str ⟨#[114, 101, 109]⟩))])]) ⟨hpE, []⟩
def spc60 : PC := []
def r60_0c0 : RT := (.leaf (.int .i64 (.lit 57)))
theorem r60_0k0 : r60_0c0.ok 0 M60 spc60 = true := by kernel_rfl
def sm60 : Sm := ⟨[(false, [(.lit (.str ⟨#[114, 101, 109]⟩))])], false, r60_0c0⟩
theorem sv60 (G : Nat → Option Nat) (D : Hp) : SmValid Tryd.prog (GofSm G sm60) (DofSm D sm60) 18 sm60 := smValid0 (T := T60) (fuel := 2000) mixed hF (VT60 _ _) rfl r60_0k0
def T61 : List (Nat × List Sm) := []
theorem VT61 (G : Nat → Option Nat) (D : Hp) : AllV Tryd.prog G D T61 := trivial
noncomputable def M61 : TT (SV × SP) := evFnD (cfgT F (fun _ => none) hpE T61) 2000 18 (patAs 0 [(false, [(.lit (.str ⟨#[114, 101, 109, 117]⟩))])]) ⟨hpE, []⟩
def spc61 : PC := []
def r61_0c0 : RT := (.leaf (.int .i64 (.lit 58)))
theorem r61_0k0 : r61_0c0.ok 0 M61 spc61 = true := by kernel_rfl
def sm61 : Sm := ⟨[(false, [(.lit (.str ⟨#[114, 101, 109, 117]⟩))])], false, r61_0c0⟩
theorem sv61 (G : Nat → Option Nat) (D : Hp) : SmValid Tryd.prog (GofSm G sm61) (DofSm D sm61) 18 sm61 := smValid0 (T := T61) (fuel := 2000) mixed hF (VT61 _ _) rfl r61_0k0
def T62 : List (Nat × List Sm) := []
theorem VT62 (G : Nat → Option Nat) (D : Hp) : AllV Tryd.prog G D T62 := trivial
noncomputable def M62 : TT (SV × SP) := evFnD (cfgT F (fun _ => none) hpE T62) 2000 18 (patAs 0 [(false, [(.lit (.str ⟨#[108, 114, 46, 119]⟩))])]) ⟨hpE, []⟩
def spc62 : PC := []
def r62_0c0 : RT := (.leaf (.int .i64 (.lit 59)))
theorem r62_0k0 : r62_0c0.ok 0 M62 spc62 = true := by kernel_rfl
def sm62 : Sm := ⟨[(false, [(.lit (.str ⟨#[108, 114, 46, 119]⟩))])], false, r62_0c0⟩
theorem sv62 (G : Nat → Option Nat) (D : Hp) : SmValid Tryd.prog (GofSm G sm62) (DofSm D sm62) 18 sm62 := smValid0 (T := T62) (fuel := 2000) mixed hF (VT62 _ _) rfl r62_0k0
def T63 : List (Nat × List Sm) := []
theorem VT63 (G : Nat → Option Nat) (D : Hp) : AllV Tryd.prog G D T63 := trivial
noncomputable def M63 : TT (SV × SP) := evFnD (cfgT F (fun _ => none) hpE T63) 2000 18 (patAs 0 [(false, [(.lit (.str ⟨#[115, 99, 46, 119]⟩))])]) ⟨hpE, []⟩
def spc63 : PC := []
def r63_0c0 : RT := (.leaf (.int .i64 (.lit 60)))
theorem r63_0k0 : r63_0c0.ok 0 M63 spc63 = true := by kernel_rfl
def sm63 : Sm := ⟨[(false, [(.lit (.str ⟨#[115, 99, 46, 119]⟩))])], false, r63_0c0⟩
theorem sv63 (G : Nat → Option Nat) (D : Hp) : SmValid Tryd.prog (GofSm G sm63) (DofSm D sm63) 18 sm63 := smValid0 (T := T63) (fuel := 2000) mixed hF (VT63 _ _) rfl r63_0k0
def T64 : List (Nat × List Sm) := []
theorem VT64 (G : Nat → Option Nat) (D : Hp) : AllV Tryd.prog G D T64 := trivial
noncomputable def M64 : TT (SV × SP) := evFnD (cfgT F (fun _ => none) hpE T64) 2000 18 (patAs 0 [(false, [(.lit (.str ⟨#[97, 109, 111, 115, 119, 97, 112, 46, 119]⟩))])]) ⟨hpE, []⟩
def spc64 : PC := []
def r64_0c0 : RT := (.leaf (.int .i64 (.lit 61)))
theorem r64_0k0 : r64_0c0.ok 0 M64 spc64 = true := by kernel_rfl
def sm64 : Sm := ⟨[(false, [(.lit (.str ⟨#[97, 109, 111, 115, 119, 97, 112, 46, 119]⟩))])], false, r64_0c0⟩
theorem sv64 (G : Nat → Option Nat) (D : Hp) : SmValid Tryd.prog (GofSm G sm64) (DofSm D sm64) 18 sm64 := smValid0 (T := T64) (fuel := 2000) mixed hF (VT64 _ _) rfl r64_0k0
def T65 : List (Nat × List Sm) := []
theorem VT65 (G : Nat → Option Nat) (D : Hp) : AllV Tryd.prog G D T65 := trivial
noncomputable def M65 : TT (SV × SP) := evFnD (cfgT F (fun _ => none) hpE T65) 2000 18 (patAs 0 [(false, [(.lit (.str ⟨#[97, 109, 111, 97, 100, 100, 46, 119]⟩))])]) ⟨hpE, []⟩
def spc65 : PC := []
def r65_0c0 : RT := (.leaf (.int .i64 (.lit 62)))
theorem r65_0k0 : r65_0c0.ok 0 M65 spc65 = true := by kernel_rfl
def sm65 : Sm := ⟨[(false, [(.lit (.str ⟨#[97, 109, 111, 97, 100, 100, 46, 119]⟩))])], false, r65_0c0⟩
theorem sv65 (G : Nat → Option Nat) (D : Hp) : SmValid Tryd.prog (GofSm G sm65) (DofSm D sm65) 18 sm65 := smValid0 (T := T65) (fuel := 2000) mixed hF (VT65 _ _) rfl r65_0k0
def T66 : List (Nat × List Sm) := []
theorem VT66 (G : Nat → Option Nat) (D : Hp) : AllV Tryd.prog G D T66 := trivial
noncomputable def M66 : TT (SV × SP) := evFnD (cfgT F (fun _ => none) hpE T66) 2000 18 (patAs 0 [(false, [(.lit (.str ⟨#[97, 109, 111, 120, 111, 114, 46, 119]⟩))])]) ⟨hpE, []⟩
def spc66 : PC := []
def r66_0c0 : RT := (.leaf (.int .i64 (.lit 63)))
theorem r66_0k0 : r66_0c0.ok 0 M66 spc66 = true := by kernel_rfl
def sm66 : Sm := ⟨[(false, [(.lit (.str ⟨#[97, 109, 111, 120, 111, 114, 46, 119]⟩))])], false, r66_0c0⟩
theorem sv66 (G : Nat → Option Nat) (D : Hp) : SmValid Tryd.prog (GofSm G sm66) (DofSm D sm66) 18 sm66 := smValid0 (T := T66) (fuel := 2000) mixed hF (VT66 _ _) rfl r66_0k0
def T67 : List (Nat × List Sm) := []
theorem VT67 (G : Nat → Option Nat) (D : Hp) : AllV Tryd.prog G D T67 := trivial
noncomputable def M67 : TT (SV × SP) := evFnD (cfgT F (fun _ => none) hpE T67) 2000 18 (patAs 0 [(false, [(.lit (.str ⟨#[97, 109, 111, 97, 110, 100, 46, 119]⟩))])]) ⟨hpE, []⟩
def spc67 : PC := []
def r67_0c0 : RT := (.leaf (.int .i64 (.lit 64)))
theorem r67_0k0 : r67_0c0.ok 0 M67 spc67 = true := by kernel_rfl
def sm67 : Sm := ⟨[(false, [(.lit (.str ⟨#[97, 109, 111, 97, 110, 100, 46, 119]⟩))])], false, r67_0c0⟩
theorem sv67 (G : Nat → Option Nat) (D : Hp) : SmValid Tryd.prog (GofSm G sm67) (DofSm D sm67) 18 sm67 := smValid0 (T := T67) (fuel := 2000) mixed hF (VT67 _ _) rfl r67_0k0
def T68 : List (Nat × List Sm) := []
theorem VT68 (G : Nat → Option Nat) (D : Hp) : AllV Tryd.prog G D T68 := trivial
noncomputable def M68 : TT (SV × SP) := evFnD (cfgT F (fun _ => none) hpE T68) 2000 18 (patAs 0 [(false, [(.lit (.str ⟨#[97, 109, 111, 111, 114, 46, 119]⟩))])]) ⟨hpE, []⟩
def spc68 : PC := []
def r68_0c0 : RT := (.leaf (.int .i64 (.lit 65)))
theorem r68_0k0 : r68_0c0.ok 0 M68 spc68 = true := by kernel_rfl
def sm68 : Sm := ⟨[(false, [(.lit (.str ⟨#[97, 109, 111, 111, 114, 46, 119]⟩))])], false, r68_0c0⟩
theorem sv68 (G : Nat → Option Nat) (D : Hp) : SmValid Tryd.prog (GofSm G sm68) (DofSm D sm68) 18 sm68 := smValid0 (T := T68) (fuel := 2000) mixed hF (VT68 _ _) rfl r68_0k0
def T69 : List (Nat × List Sm) := []
theorem VT69 (G : Nat → Option Nat) (D : Hp) : AllV Tryd.prog G D T69 := trivial
noncomputable def M69 : TT (SV × SP) := evFnD (cfgT F (fun _ => none) hpE T69) 2000 18 (patAs 0 [(false, [(.lit (.str ⟨#[97, 109, 111, 109, 105, 110, 46, 119]⟩))])]) ⟨hpE, []⟩
def spc69 : PC := []
def r69_0c0 : RT := (.leaf (.int .i64 (.lit 66)))
theorem r69_0k0 : r69_0c0.ok 0 M69 spc69 = true := by kernel_rfl
def sm69 : Sm := ⟨[(false, [(.lit (.str ⟨#[97, 109, 111, 109, 105, 110, 46, 119]⟩))])], false, r69_0c0⟩
theorem sv69 (G : Nat → Option Nat) (D : Hp) : SmValid Tryd.prog (GofSm G sm69) (DofSm D sm69) 18 sm69 := smValid0 (T := T69) (fuel := 2000) mixed hF (VT69 _ _) rfl r69_0k0
def T70 : List (Nat × List Sm) := []
theorem VT70 (G : Nat → Option Nat) (D : Hp) : AllV Tryd.prog G D T70 := trivial
noncomputable def M70 : TT (SV × SP) := evFnD (cfgT F (fun _ => none) hpE T70) 2000 18 (patAs 0 [(false, [(.lit (.str ⟨#[97, 109, 111, 109, 97, 120, 46, 119]⟩))])]) ⟨hpE, []⟩
def spc70 : PC := []
def r70_0c0 : RT := (.leaf (.int .i64 (.lit 67)))
theorem r70_0k0 : r70_0c0.ok 0 M70 spc70 = true := by kernel_rfl
def sm70 : Sm := ⟨[(false, [(.lit (.str ⟨#[97, 109, 111, 109, 97, 120, 46, 119]⟩))])], false, r70_0c0⟩
theorem sv70 (G : Nat → Option Nat) (D : Hp) : SmValid Tryd.prog (GofSm G sm70) (DofSm D sm70) 18 sm70 := smValid0 (T := T70) (fuel := 2000) mixed hF (VT70 _ _) rfl r70_0k0
def T71 : List (Nat × List Sm) := []
theorem VT71 (G : Nat → Option Nat) (D : Hp) : AllV Tryd.prog G D T71 := trivial
noncomputable def M71 : TT (SV × SP) := evFnD (cfgT F (fun _ => none) hpE T71) 2000 18 (patAs 0 [(false, [(.lit (.str ⟨#[97, 109, 111, 109, 105, 110, 117, 46, 119]⟩))])]) ⟨hpE, []⟩
def spc71 : PC := []
def r71_0c0 : RT := (.leaf (.int .i64 (.lit 68)))
theorem r71_0k0 : r71_0c0.ok 0 M71 spc71 = true := by kernel_rfl
def sm71 : Sm := ⟨[(false, [(.lit (.str ⟨#[97, 109, 111, 109, 105, 110, 117, 46, 119]⟩))])], false, r71_0c0⟩
theorem sv71 (G : Nat → Option Nat) (D : Hp) : SmValid Tryd.prog (GofSm G sm71) (DofSm D sm71) 18 sm71 := smValid0 (T := T71) (fuel := 2000) mixed hF (VT71 _ _) rfl r71_0k0
def T72 : List (Nat × List Sm) := []
theorem VT72 (G : Nat → Option Nat) (D : Hp) : AllV Tryd.prog G D T72 := trivial
noncomputable def M72 : TT (SV × SP) := evFnD (cfgT F (fun _ => none) hpE T72) 2000 18 (patAs 0 [(false, [(.lit (.str ⟨#[97, 109, 111, 109, 97, 120, 117, 46, 119]⟩))])]) ⟨hpE, []⟩
def spc72 : PC := []
def r72_0c0 : RT := (.leaf (.int .i64 (.lit 69)))
theorem r72_0k0 : r72_0c0.ok 0 M72 spc72 = true := by kernel_rfl
def sm72 : Sm := ⟨[(false, [(.lit (.str ⟨#[97, 109, 111, 109, 97, 120, 117, 46, 119]⟩))])], false, r72_0c0⟩
theorem sv72 (G : Nat → Option Nat) (D : Hp) : SmValid Tryd.prog (GofSm G sm72) (DofSm D sm72) 18 sm72 := smValid0 (T := T72) (fuel := 2000) mixed hF (VT72 _ _) rfl r72_0k0
def TL : List (Nat × List Sm) := [(18, [sm3, sm4, sm5, sm6, sm7, sm8, sm9, sm10, sm11, sm12, sm13, sm14, sm15, sm16, sm17, sm18, sm19, sm20, sm21, sm22, sm23, sm24, sm25, sm26, sm27, sm28, sm29, sm30, sm31, sm32, sm33, sm34, sm35, sm36, sm37, sm38, sm39, sm40, sm41, sm42, sm43, sm44, sm45, sm46, sm47, sm48, sm49, sm50, sm51, sm52, sm53, sm54, sm55, sm56, sm57, sm58, sm59, sm60, sm61, sm62, sm63, sm64, sm65, sm66, sm67, sm68, sm69, sm70, sm71, sm72]), (11, [sm2]), (10, [sm1]), (36, [sm0])]
theorem VTL : AllV Tryd.prog G doorH TL := ⟨fun sm h => by
  simp only [List.mem_cons, List.not_mem_nil, or_false] at h
  rcases h with rfl | rfl | rfl | rfl | rfl | rfl | rfl | rfl | rfl | rfl | rfl | rfl | rfl | rfl | rfl | rfl | rfl | rfl | rfl | rfl | rfl | rfl | rfl | rfl | rfl | rfl | rfl | rfl | rfl | rfl | rfl | rfl | rfl | rfl | rfl | rfl | rfl | rfl | rfl | rfl | rfl | rfl | rfl | rfl | rfl | rfl | rfl | rfl | rfl | rfl | rfl | rfl | rfl | rfl | rfl | rfl | rfl | rfl | rfl | rfl | rfl | rfl | rfl | rfl | rfl | rfl | rfl | rfl | rfl | rfl
  · exact sv3 G doorH
  · exact sv4 G doorH
  · exact sv5 G doorH
  · exact sv6 G doorH
  · exact sv7 G doorH
  · exact sv8 G doorH
  · exact sv9 G doorH
  · exact sv10 G doorH
  · exact sv11 G doorH
  · exact sv12 G doorH
  · exact sv13 G doorH
  · exact sv14 G doorH
  · exact sv15 G doorH
  · exact sv16 G doorH
  · exact sv17 G doorH
  · exact sv18 G doorH
  · exact sv19 G doorH
  · exact sv20 G doorH
  · exact sv21 G doorH
  · exact sv22 G doorH
  · exact sv23 G doorH
  · exact sv24 G doorH
  · exact sv25 G doorH
  · exact sv26 G doorH
  · exact sv27 G doorH
  · exact sv28 G doorH
  · exact sv29 G doorH
  · exact sv30 G doorH
  · exact sv31 G doorH
  · exact sv32 G doorH
  · exact sv33 G doorH
  · exact sv34 G doorH
  · exact sv35 G doorH
  · exact sv36 G doorH
  · exact sv37 G doorH
  · exact sv38 G doorH
  · exact sv39 G doorH
  · exact sv40 G doorH
  · exact sv41 G doorH
  · exact sv42 G doorH
  · exact sv43 G doorH
  · exact sv44 G doorH
  · exact sv45 G doorH
  · exact sv46 G doorH
  · exact sv47 G doorH
  · exact sv48 G doorH
  · exact sv49 G doorH
  · exact sv50 G doorH
  · exact sv51 G doorH
  · exact sv52 G doorH
  · exact sv53 G doorH
  · exact sv54 G doorH
  · exact sv55 G doorH
  · exact sv56 G doorH
  · exact sv57 G doorH
  · exact sv58 G doorH
  · exact sv59 G doorH
  · exact sv60 G doorH
  · exact sv61 G doorH
  · exact sv62 G doorH
  · exact sv63 G doorH
  · exact sv64 G doorH
  · exact sv65 G doorH
  · exact sv66 G doorH
  · exact sv67 G doorH
  · exact sv68 G doorH
  · exact sv69 G doorH
  · exact sv70 G doorH
  · exact sv71 G doorH
  · exact sv72 G doorH, ⟨fun sm h => by
  simp only [List.mem_cons, List.not_mem_nil, or_false] at h
  rcases h with rfl
  · exact sv2 G doorH, ⟨fun sm h => by
  simp only [List.mem_cons, List.not_mem_nil, or_false] at h
  rcases h with rfl
  · exact sv1 G doorH, ⟨fun sm h => by
  simp only [List.mem_cons, List.not_mem_nil, or_false] at h
  rcases h with rfl
  · exact sv0 G doorH, trivial⟩⟩⟩⟩
noncomputable def CL : Cfg := cfgT F G doorH TL
end Go.Proofs.YtagaclifeoiepabDoor.isaNames

/- Summaries of functions that IsaAll comes to, held against their runs. No condition. -/
import Derived.Test.YtagaclifeoiepabDoorFIsaAll
namespace Go.Proofs.YtagaclifeoiepabDoor.isaAll
open Go.Sx
set_option linter.unusedVariables false
set_option linter.unusedSimpArgs false
set_option maxRecDepth 1000000
def T0 : List (Nat × List Sm) := []
theorem VT0 (G : Nat → Option Nat) (D : Hp) : AllV Tryd.prog G D T0 := trivial
noncomputable def M0 : TT (SV × SP) := evFnD (cfgT F (fun _ => none) hpE T0) 2000 36 (patAs 0 [(false, [(.int .u32)])]) ⟨hpE, []⟩
def spc0 : PC := []
def r0_0c0 : RT := (.leaf (.agg [(.int .u32 (.bin .and .u32 (.cv .u32 (.var 0)) (.lit 127))), (.int .u32 (.bin .and .u32 (.bin .shr .u32 (.cv .u32 (.var 0)) (.lit 7)) (.lit 31))), (.int .u32 (.bin .and .u32 (.bin .shr .u32 (.cv .u32 (.var 0)) (.lit 12)) (.lit 7))), (.int .u32 (.bin .and .u32 (.bin .shr .u32 (.cv .u32 (.var 0)) (.lit 15)) (.lit 31))), (.int .u32 (.bin .and .u32 (.bin .shr .u32 (.cv .u32 (.var 0)) (.lit 20)) (.lit 31))), (.int .u32 (.bin .shr .u32 (.cv .u32 (.var 0)) (.lit 25)))]))
theorem r0_0k0 : r0_0c0.ok 0 M0 spc0 = true := by kernel_rfl
def sm0 : Sm := ⟨[(false, [(.int .u32)])], false, r0_0c0⟩
theorem sv0 (G : Nat → Option Nat) (D : Hp) : SmValid Tryd.prog (GofSm G sm0) (DofSm D sm0) 36 sm0 := smValid0 (T := T0) (fuel := 2000) mixed hF (VT0 _ _) rfl r0_0k0
def T1 : List (Nat × List Sm) := [(36, [sm0])]
theorem VT1 (G : Nat → Option Nat) (D : Hp) : AllV Tryd.prog G D T1 := ⟨fun sm h => by
  simp only [List.mem_cons, List.not_mem_nil, or_false] at h
  rcases h with rfl
  · exact sv0 G D, trivial⟩
noncomputable def M1 : TT (SV × SP) := evFnD (cfgT F (fun _ => none) hpE T1) 2000 10 (patAs 0 [(false, [(.int .i64)])]) ⟨hpE, []⟩
def spc1 : PC := []
def r1_0c0 : RT := (.node (.cmp .lss (.cv .i64 (.var 0)) (.lit 1)) (.leaf (.str ⟨#[]⟩))
 (.node (.cmp .lss (.lit 69) (.cv .i64 (.var 0))) (.leaf (.str ⟨#[]⟩))
 (.node (.cmp .eql (.cv .i64 (.var 0)) (.lit 1)) (.leaf (.str ⟨#[108, 117, 105]⟩))
 (.node (.cmp .eql (.cv .i64 (.var 0)) (.lit 2)) (.leaf (.str ⟨#[97, 117, 105, 112, 99]⟩))
 (.node (.cmp .eql (.cv .i64 (.var 0)) (.lit 3)) (.leaf (.str ⟨#[106, 97, 108]⟩))
 (.node (.cmp .eql (.cv .i64 (.var 0)) (.lit 4)) (.leaf (.str ⟨#[106, 97, 108, 114]⟩))
 (.node (.cmp .eql (.cv .i64 (.var 0)) (.lit 5)) (.leaf (.str ⟨#[98, 101, 113]⟩))
 (.node (.cmp .eql (.cv .i64 (.var 0)) (.lit 6)) (.leaf (.str ⟨#[98, 110, 101]⟩))
 (.node (.cmp .eql (.cv .i64 (.var 0)) (.lit 7)) (.leaf (.str ⟨#[98, 108, 116]⟩))
 (.node (.cmp .eql (.cv .i64 (.var 0)) (.lit 8)) (.leaf (.str ⟨#[98, 103, 101]⟩))
 (.node (.cmp .eql (.cv .i64 (.var 0)) (.lit 9)) (.leaf (.str ⟨#[98, 108, 116, 117]⟩))
 (.node (.cmp .eql (.cv .i64 (.var 0)) (.lit 10)) (.leaf (.str ⟨#[98, 103, 101, 117]⟩))
 (.node (.cmp .eql (.cv .i64 (.var 0)) (.lit 11)) (.leaf (.str ⟨#[108, 98]⟩))
 (.node (.cmp .eql (.cv .i64 (.var 0)) (.lit 12)) (.leaf (.str ⟨#[108, 104]⟩))
 (.node (.cmp .eql (.cv .i64 (.var 0)) (.lit 13)) (.leaf (.str ⟨#[108, 119]⟩))
 (.node (.cmp .eql (.cv .i64 (.var 0)) (.lit 14)) (.leaf (.str ⟨#[108, 98, 117]⟩))
 (.node (.cmp .eql (.cv .i64 (.var 0)) (.lit 15)) (.leaf (.str ⟨#[108, 104, 117]⟩))
 (.node (.cmp .eql (.cv .i64 (.var 0)) (.lit 16)) (.leaf (.str ⟨#[115, 98]⟩))
 (.node (.cmp .eql (.cv .i64 (.var 0)) (.lit 17)) (.leaf (.str ⟨#[115, 104]⟩))
 (.node (.cmp .eql (.cv .i64 (.var 0)) (.lit 18)) (.leaf (.str ⟨#[115, 119]⟩))
 (.node (.cmp .eql (.cv .i64 (.var 0)) (.lit 19)) (.leaf (.str ⟨#[97, 100, 100, 105]⟩))
 (.node (.cmp .eql (.cv .i64 (.var 0)) (.lit 20)) (.leaf (.str ⟨#[115, 108, 116, 105]⟩))
 (.node (.cmp .eql (.cv .i64 (.var 0)) (.lit 21)) (.leaf (.str ⟨#[115, 108, 116, 105, 117]⟩))
 (.node (.cmp .eql (.cv .i64 (.var 0)) (.lit 22)) (.leaf (.str ⟨#[120, 111, 114, 105]⟩))
 (.node (.cmp .eql (.cv .i64 (.var 0)) (.lit 23)) (.leaf (.str ⟨#[111, 114, 105]⟩))
 (.node (.cmp .eql (.cv .i64 (.var 0)) (.lit 24)) (.leaf (.str ⟨#[97, 110, 100, 105]⟩))
 (.node (.cmp .eql (.cv .i64 (.var 0)) (.lit 25)) (.leaf (.str ⟨#[115, 108, 108, 105]⟩))
 (.node (.cmp .eql (.cv .i64 (.var 0)) (.lit 26)) (.leaf (.str ⟨#[115, 114, 108, 105]⟩))
 (.node (.cmp .eql (.cv .i64 (.var 0)) (.lit 27)) (.leaf (.str ⟨#[115, 114, 97, 105]⟩))
 (.node (.cmp .eql (.cv .i64 (.var 0)) (.lit 28)) (.leaf (.str ⟨#[97, 100, 100]⟩))
 .dead))))))))))))))))))))))))))))))
theorem r1_0k0 : r1_0c0.ok 0 M1 spc1 = true := by kernel_rfl
noncomputable def r1_0M0 : TT (SV × SP) := M1.go [false, false, false, false, false, false, false, false, false, false, false, false, false, false, false, false, false, false, false, false, false, false, false, false, false, false, false, false, false, false]
def r1_0p0 : PC := r1_0c0.pcAt [false, false, false, false, false, false, false, false, false, false, false, false, false, false, false, false, false, false, false, false, false, false, false, false, false, false, false, false, false, false] spc1
def r1_1c0 : RT := (.node (.cmp .eql (.cv .i64 (.var 0)) (.lit 29)) (.leaf (.str ⟨#[115, 117, 98]⟩))
 (.node (.cmp .eql (.cv .i64 (.var 0)) (.lit 30)) (.leaf (.str ⟨#[115, 108, 108]⟩))
 (.node (.cmp .eql (.cv .i64 (.var 0)) (.lit 31)) (.leaf (.str ⟨#[115, 108, 116]⟩))
 (.node (.cmp .eql (.cv .i64 (.var 0)) (.lit 32)) (.leaf (.str ⟨#[115, 108, 116, 117]⟩))
 (.node (.cmp .eql (.cv .i64 (.var 0)) (.lit 33)) (.leaf (.str ⟨#[120, 111, 114]⟩))
 (.node (.cmp .eql (.cv .i64 (.var 0)) (.lit 34)) (.leaf (.str ⟨#[115, 114, 108]⟩))
 (.node (.cmp .eql (.cv .i64 (.var 0)) (.lit 35)) (.leaf (.str ⟨#[115, 114, 97]⟩))
 (.node (.cmp .eql (.cv .i64 (.var 0)) (.lit 36)) (.leaf (.str ⟨#[111, 114]⟩))
 (.node (.cmp .eql (.cv .i64 (.var 0)) (.lit 37)) (.leaf (.str ⟨#[97, 110, 100]⟩))
 (.node (.cmp .eql (.cv .i64 (.var 0)) (.lit 38)) (.leaf (.str ⟨#[102, 101, 110, 99, 101]⟩))
 (.node (.cmp .eql (.cv .i64 (.var 0)) (.lit 39)) (.leaf (.str ⟨#[102, 101, 110, 99, 101, 46, 105]⟩))
 (.node (.cmp .eql (.cv .i64 (.var 0)) (.lit 40)) (.leaf (.str ⟨#[101, 99, 97, 108, 108]⟩))
 (.node (.cmp .eql (.cv .i64 (.var 0)) (.lit 41)) (.leaf (.str ⟨#[101, 98, 114, 101, 97, 107]⟩))
 (.node (.cmp .eql (.cv .i64 (.var 0)) (.lit 42)) (.leaf (.str ⟨#[109, 114, 101, 116]⟩))
 (.node (.cmp .eql (.cv .i64 (.var 0)) (.lit 43)) (.leaf (.str ⟨#[119, 102, 105]⟩))
 (.node (.cmp .eql (.cv .i64 (.var 0)) (.lit 44)) (.leaf (.str ⟨#[115, 102, 101, 110, 99, 101, 46, 118, 109, 97]⟩))
 (.node (.cmp .eql (.cv .i64 (.var 0)) (.lit 45)) (.leaf (.str ⟨#[99, 115, 114, 114, 119]⟩))
 (.node (.cmp .eql (.cv .i64 (.var 0)) (.lit 46)) (.leaf (.str ⟨#[99, 115, 114, 114, 115]⟩))
 (.node (.cmp .eql (.cv .i64 (.var 0)) (.lit 47)) (.leaf (.str ⟨#[99, 115, 114, 114, 99]⟩))
 (.node (.cmp .eql (.cv .i64 (.var 0)) (.lit 48)) (.leaf (.str ⟨#[99, 115, 114, 114, 119, 105]⟩))
 (.node (.cmp .eql (.cv .i64 (.var 0)) (.lit 49)) (.leaf (.str ⟨#[99, 115, 114, 114, 115, 105]⟩))
 (.node (.cmp .eql (.cv .i64 (.var 0)) (.lit 50)) (.leaf (.str ⟨#[99, 115, 114, 114, 99, 105]⟩))
 (.node (.cmp .eql (.cv .i64 (.var 0)) (.lit 51)) (.leaf (.str ⟨#[109, 117, 108]⟩))
 (.node (.cmp .eql (.cv .i64 (.var 0)) (.lit 52)) (.leaf (.str ⟨#[109, 117, 108, 104]⟩))
 (.node (.cmp .eql (.cv .i64 (.var 0)) (.lit 53)) (.leaf (.str ⟨#[109, 117, 108, 104, 115, 117]⟩))
 (.node (.cmp .eql (.cv .i64 (.var 0)) (.lit 54)) (.leaf (.str ⟨#[109, 117, 108, 104, 117]⟩))
 (.node (.cmp .eql (.cv .i64 (.var 0)) (.lit 55)) (.leaf (.str ⟨#[100, 105, 118]⟩))
 (.node (.cmp .eql (.cv .i64 (.var 0)) (.lit 56)) (.leaf (.str ⟨#[100, 105, 118, 117]⟩))
 (.node (.cmp .eql (.cv .i64 (.var 0)) (.lit 57)) (.leaf (.str ⟨#[114, 101, 109]⟩))
 (.node (.cmp .eql (.cv .i64 (.var 0)) (.lit 58)) (.leaf (.str ⟨#[114, 101, 109, 117]⟩))
 .dead))))))))))))))))))))))))))))))
theorem r1_1k0 : r1_1c0.ok 0 r1_0M0 r1_0p0 = true := by kernel_rfl
noncomputable def r1_1M0 : TT (SV × SP) := r1_0M0.go [false, false, false, false, false, false, false, false, false, false, false, false, false, false, false, false, false, false, false, false, false, false, false, false, false, false, false, false, false, false]
def r1_1p0 : PC := r1_1c0.pcAt [false, false, false, false, false, false, false, false, false, false, false, false, false, false, false, false, false, false, false, false, false, false, false, false, false, false, false, false, false, false] r1_0p0
def r1_2c0 : RT := (.node (.cmp .eql (.cv .i64 (.var 0)) (.lit 59)) (.leaf (.str ⟨#[108, 114, 46, 119]⟩))
 (.node (.cmp .eql (.cv .i64 (.var 0)) (.lit 60)) (.leaf (.str ⟨#[115, 99, 46, 119]⟩))
 (.node (.cmp .eql (.cv .i64 (.var 0)) (.lit 61)) (.leaf (.str ⟨#[97, 109, 111, 115, 119, 97, 112, 46, 119]⟩))
 (.node (.cmp .eql (.cv .i64 (.var 0)) (.lit 62)) (.leaf (.str ⟨#[97, 109, 111, 97, 100, 100, 46, 119]⟩))
 (.node (.cmp .eql (.cv .i64 (.var 0)) (.lit 63)) (.leaf (.str ⟨#[97, 109, 111, 120, 111, 114, 46, 119]⟩))
 (.node (.cmp .eql (.cv .i64 (.var 0)) (.lit 64)) (.leaf (.str ⟨#[97, 109, 111, 97, 110, 100, 46, 119]⟩))
 (.node (.cmp .eql (.cv .i64 (.var 0)) (.lit 65)) (.leaf (.str ⟨#[97, 109, 111, 111, 114, 46, 119]⟩))
 (.node (.cmp .eql (.cv .i64 (.var 0)) (.lit 66)) (.leaf (.str ⟨#[97, 109, 111, 109, 105, 110, 46, 119]⟩))
 (.node (.cmp .eql (.cv .i64 (.var 0)) (.lit 67)) (.leaf (.str ⟨#[97, 109, 111, 109, 97, 120, 46, 119]⟩))
 (.node (.cmp .eql (.cv .i64 (.var 0)) (.lit 68)) (.leaf (.str ⟨#[97, 109, 111, 109, 105, 110, 117, 46, 119]⟩))
 (.node (.cmp .eql (.cv .i64 (.var 0)) (.lit 69)) (.leaf (.str ⟨#[97, 109, 111, 109, 97, 120, 117, 46, 119]⟩))
 .dead)))))))))))
theorem r1_2k0 : r1_2c0.ok 0 r1_1M0 r1_1p0 = true := by kernel_rfl
def r1_1c1 : RT := r1_1c0.plug [false, false, false, false, false, false, false, false, false, false, false, false, false, false, false, false, false, false, false, false, false, false, false, false, false, false, false, false, false, false] r1_2c0
theorem r1_1k1 : r1_1c1.ok 0 r1_0M0 r1_0p0 = true := RT.ok_plug (p := [false, false, false, false, false, false, false, false, false, false, false, false, false, false, false, false, false, false, false, false, false, false, false, false, false, false, false, false, false, false]) r1_1k0 r1_2k0
def r1_0c1 : RT := r1_0c0.plug [false, false, false, false, false, false, false, false, false, false, false, false, false, false, false, false, false, false, false, false, false, false, false, false, false, false, false, false, false, false] r1_1c1
theorem r1_0k1 : r1_0c1.ok 0 M1 spc1 = true := RT.ok_plug (p := [false, false, false, false, false, false, false, false, false, false, false, false, false, false, false, false, false, false, false, false, false, false, false, false, false, false, false, false, false, false]) r1_0k0 r1_1k1
def sm1 : Sm := ⟨[(false, [(.int .i64)])], false, r1_0c1⟩
theorem sv1 (G : Nat → Option Nat) (D : Hp) : SmValid Tryd.prog (GofSm G sm1) (DofSm D sm1) 10 sm1 := smValid0 (T := T1) (fuel := 2000) mixed hF (VT1 _ _) rfl r1_0k1
def TL : List (Nat × List Sm) := [(10, [sm1]), (36, [sm0])]
theorem VTL : AllV Tryd.prog G doorH TL := ⟨fun sm h => by
  simp only [List.mem_cons, List.not_mem_nil, or_false] at h
  rcases h with rfl
  · exact sv1 G doorH, ⟨fun sm h => by
  simp only [List.mem_cons, List.not_mem_nil, or_false] at h
  rcases h with rfl
  · exact sv0 G doorH, trivial⟩⟩
noncomputable def CL : Cfg := cfgT F G doorH TL
end Go.Proofs.YtagaclifeoiepabDoor.isaAll

/- Summaries of functions that IsaOpcodes comes to, held against their runs. No condition. -/
import Derived.Test.YtagaclifeoiepabDoorFIsaOpcodes
namespace Go.Proofs.YtagaclifeoiepabDoor.isaOpcodes
open Go.Sx
set_option linter.unusedVariables false
set_option linter.unusedSimpArgs false
set_option maxRecDepth 1000000
def T0 : List (Nat × List Sm) := []
theorem VT0 (G : Nat → Option Nat) (D : Hp) : AllV Tryd.prog G D T0 := trivial
noncomputable def M0 : TT (SV × SP) := evFnD (cfgT F (fun _ => none) hpE T0) 2000 36 (patAs 0 [(false, [(.int .u32)])]) ⟨hpE, seedCs (kindsOf [(false, [(.int .u32)])]) [0]⟩
def spc0 : PC := seedCs (kindsOf [(false, [(.int .u32)])]) [0]
def r0_0c0 : RT := (.leaf (.agg [(.int .u32 (.bin .and .u32 (.var 0) (.lit 127))), (.int .u32 (.bin .and .u32 (.bin .shr .u32 (.var 0) (.lit 7)) (.lit 31))), (.int .u32 (.bin .and .u32 (.bin .shr .u32 (.var 0) (.lit 12)) (.lit 7))), (.int .u32 (.bin .and .u32 (.bin .shr .u32 (.var 0) (.lit 15)) (.lit 31))), (.int .u32 (.bin .and .u32 (.bin .shr .u32 (.var 0) (.lit 20)) (.lit 31))), (.int .u32 (.bin .and .u32 (.bin .shr .u32 (.var 0) (.lit 25)) (.lit 127)))]))
theorem r0_0k0 : r0_0c0.ok 0 M0 spc0 = true := by kernel_rfl
def sm0 : Sm := ⟨[(false, [(.int .u32)])], [0], false, r0_0c0⟩
theorem sv0 (G : Nat → Option Nat) (D : Hp) : SmValid Tryd.prog (GofSm G sm0) (DofSm D sm0) 36 sm0 := smValid0 (T := T0) (fuel := 2000) mixed hF (VT0 _ _) rfl r0_0k0
def T1 : List (Nat × List Sm) := [(36, [sm0])]
theorem VT1 (G : Nat → Option Nat) (D : Hp) : AllV Tryd.prog G D T1 := ⟨fun sm h => by
  simp only [List.mem_cons, List.not_mem_nil, or_false] at h
  rcases h with rfl
  · exact sv0 G D, trivial⟩
noncomputable def M1 : TT (SV × SP) := evFnD (cfgT F (fun _ => none) hpE T1) 2000 25 (patAs 0 [(true, [(.lit (.int .i64 (.lit 1))), (.lit (.str ⟨#[108, 117, 105]⟩)), (.lit (.int .i64 (.lit 0))), (.lit (.int .u32 (.lit 55))), (.lit (.int .u32 (.lit 0))), (.lit (.int .u32 (.lit 0))), (.lit (.int .i64 (.lit 1)))]), (false, [(.int .u32)])]) ⟨hpE, seedCs (kindsOf [(true, [(.lit (.int .i64 (.lit 1))), (.lit (.str ⟨#[108, 117, 105]⟩)), (.lit (.int .i64 (.lit 0))), (.lit (.int .u32 (.lit 55))), (.lit (.int .u32 (.lit 0))), (.lit (.int .u32 (.lit 0))), (.lit (.int .i64 (.lit 1)))]), (false, [(.int .u32)])]) [0]⟩
def spc1 : PC := seedCs (kindsOf [(true, [(.lit (.int .i64 (.lit 1))), (.lit (.str ⟨#[108, 117, 105]⟩)), (.lit (.int .i64 (.lit 0))), (.lit (.int .u32 (.lit 55))), (.lit (.int .u32 (.lit 0))), (.lit (.int .u32 (.lit 0))), (.lit (.int .i64 (.lit 1)))]), (false, [(.int .u32)])]) [0]
def r1_0c0 : RT := (.node (.cmp .eql (.bin .and .u32 (.var 0) (.lit 127)) (.lit 55)) (.leaf (.bool (.lit true)))
 (.leaf (.bool (.lit false))))
theorem r1_0k0 : r1_0c0.ok 0 M1 spc1 = true := by kernel_rfl
def sm1 : Sm := ⟨[(true, [(.lit (.int .i64 (.lit 1))), (.lit (.str ⟨#[108, 117, 105]⟩)), (.lit (.int .i64 (.lit 0))), (.lit (.int .u32 (.lit 55))), (.lit (.int .u32 (.lit 0))), (.lit (.int .u32 (.lit 0))), (.lit (.int .i64 (.lit 1)))]), (false, [(.int .u32)])], [0], false, r1_0c0⟩
theorem sv1 (G : Nat → Option Nat) (D : Hp) : SmValid Tryd.prog (GofSm G sm1) (DofSm D sm1) 25 sm1 := smValid0 (T := T1) (fuel := 2000) mixed hF (VT1 _ _) rfl r1_0k0
def T2 : List (Nat × List Sm) := [(25, [sm1]), (36, [sm0])]
theorem VT2 (G : Nat → Option Nat) (D : Hp) : AllV Tryd.prog G D T2 := ⟨fun sm h => by
  simp only [List.mem_cons, List.not_mem_nil, or_false] at h
  rcases h with rfl
  · exact sv1 G D, ⟨fun sm h => by
  simp only [List.mem_cons, List.not_mem_nil, or_false] at h
  rcases h with rfl
  · exact sv0 G D, trivial⟩⟩
noncomputable def M2 : TT (SV × SP) := evFnD (cfgT F (fun _ => none) hpE T2) 2000 25 (patAs 0 [(true, [(.lit (.int .i64 (.lit 2))), (.lit (.str ⟨#[97, 117, 105, 112, 99]⟩)), (.lit (.int .i64 (.lit 0))), (.lit (.int .u32 (.lit 23))), (.lit (.int .u32 (.lit 0))), (.lit (.int .u32 (.lit 0))), (.lit (.int .i64 (.lit 1)))]), (false, [(.int .u32)])]) ⟨hpE, seedCs (kindsOf [(true, [(.lit (.int .i64 (.lit 2))), (.lit (.str ⟨#[97, 117, 105, 112, 99]⟩)), (.lit (.int .i64 (.lit 0))), (.lit (.int .u32 (.lit 23))), (.lit (.int .u32 (.lit 0))), (.lit (.int .u32 (.lit 0))), (.lit (.int .i64 (.lit 1)))]), (false, [(.int .u32)])]) [0]⟩
def spc2 : PC := seedCs (kindsOf [(true, [(.lit (.int .i64 (.lit 2))), (.lit (.str ⟨#[97, 117, 105, 112, 99]⟩)), (.lit (.int .i64 (.lit 0))), (.lit (.int .u32 (.lit 23))), (.lit (.int .u32 (.lit 0))), (.lit (.int .u32 (.lit 0))), (.lit (.int .i64 (.lit 1)))]), (false, [(.int .u32)])]) [0]
def r2_0c0 : RT := (.node (.cmp .eql (.bin .and .u32 (.var 0) (.lit 127)) (.lit 23)) (.leaf (.bool (.lit true)))
 (.leaf (.bool (.lit false))))
theorem r2_0k0 : r2_0c0.ok 0 M2 spc2 = true := by kernel_rfl
def sm2 : Sm := ⟨[(true, [(.lit (.int .i64 (.lit 2))), (.lit (.str ⟨#[97, 117, 105, 112, 99]⟩)), (.lit (.int .i64 (.lit 0))), (.lit (.int .u32 (.lit 23))), (.lit (.int .u32 (.lit 0))), (.lit (.int .u32 (.lit 0))), (.lit (.int .i64 (.lit 1)))]), (false, [(.int .u32)])], [0], false, r2_0c0⟩
theorem sv2 (G : Nat → Option Nat) (D : Hp) : SmValid Tryd.prog (GofSm G sm2) (DofSm D sm2) 25 sm2 := smValid0 (T := T2) (fuel := 2000) mixed hF (VT2 _ _) rfl r2_0k0
def T3 : List (Nat × List Sm) := [(25, [sm1, sm2]), (36, [sm0])]
theorem VT3 (G : Nat → Option Nat) (D : Hp) : AllV Tryd.prog G D T3 := ⟨fun sm h => by
  simp only [List.mem_cons, List.not_mem_nil, or_false] at h
  rcases h with rfl | rfl
  · exact sv1 G D
  · exact sv2 G D, ⟨fun sm h => by
  simp only [List.mem_cons, List.not_mem_nil, or_false] at h
  rcases h with rfl
  · exact sv0 G D, trivial⟩⟩
noncomputable def M3 : TT (SV × SP) := evFnD (cfgT F (fun _ => none) hpE T3) 2000 25 (patAs 0 [(true, [(.lit (.int .i64 (.lit 3))), (.lit (.str ⟨#[106, 97, 108]⟩)), (.lit (.int .i64 (.lit 1))), (.lit (.int .u32 (.lit 111))), (.lit (.int .u32 (.lit 0))), (.lit (.int .u32 (.lit 0))), (.lit (.int .i64 (.lit 2)))]), (false, [(.int .u32)])]) ⟨hpE, seedCs (kindsOf [(true, [(.lit (.int .i64 (.lit 3))), (.lit (.str ⟨#[106, 97, 108]⟩)), (.lit (.int .i64 (.lit 1))), (.lit (.int .u32 (.lit 111))), (.lit (.int .u32 (.lit 0))), (.lit (.int .u32 (.lit 0))), (.lit (.int .i64 (.lit 2)))]), (false, [(.int .u32)])]) [0]⟩
def spc3 : PC := seedCs (kindsOf [(true, [(.lit (.int .i64 (.lit 3))), (.lit (.str ⟨#[106, 97, 108]⟩)), (.lit (.int .i64 (.lit 1))), (.lit (.int .u32 (.lit 111))), (.lit (.int .u32 (.lit 0))), (.lit (.int .u32 (.lit 0))), (.lit (.int .i64 (.lit 2)))]), (false, [(.int .u32)])]) [0]
def r3_0c0 : RT := (.node (.cmp .eql (.bin .and .u32 (.var 0) (.lit 127)) (.lit 111)) (.leaf (.bool (.lit true)))
 (.leaf (.bool (.lit false))))
theorem r3_0k0 : r3_0c0.ok 0 M3 spc3 = true := by kernel_rfl
def sm3 : Sm := ⟨[(true, [(.lit (.int .i64 (.lit 3))), (.lit (.str ⟨#[106, 97, 108]⟩)), (.lit (.int .i64 (.lit 1))), (.lit (.int .u32 (.lit 111))), (.lit (.int .u32 (.lit 0))), (.lit (.int .u32 (.lit 0))), (.lit (.int .i64 (.lit 2)))]), (false, [(.int .u32)])], [0], false, r3_0c0⟩
theorem sv3 (G : Nat → Option Nat) (D : Hp) : SmValid Tryd.prog (GofSm G sm3) (DofSm D sm3) 25 sm3 := smValid0 (T := T3) (fuel := 2000) mixed hF (VT3 _ _) rfl r3_0k0
def T4 : List (Nat × List Sm) := [(25, [sm1, sm2, sm3]), (36, [sm0])]
theorem VT4 (G : Nat → Option Nat) (D : Hp) : AllV Tryd.prog G D T4 := ⟨fun sm h => by
  simp only [List.mem_cons, List.not_mem_nil, or_false] at h
  rcases h with rfl | rfl | rfl
  · exact sv1 G D
  · exact sv2 G D
  · exact sv3 G D, ⟨fun sm h => by
  simp only [List.mem_cons, List.not_mem_nil, or_false] at h
  rcases h with rfl
  · exact sv0 G D, trivial⟩⟩
noncomputable def M4 : TT (SV × SP) := evFnD (cfgT F (fun _ => none) hpE T4) 2000 25 (patAs 0 [(true, [(.lit (.int .i64 (.lit 4))), (.lit (.str ⟨#[106, 97, 108, 114]⟩)), (.lit (.int .i64 (.lit 2))), (.lit (.int .u32 (.lit 103))), (.lit (.int .u32 (.lit 0))), (.lit (.int .u32 (.lit 0))), (.lit (.int .i64 (.lit 2)))]), (false, [(.int .u32)])]) ⟨hpE, seedCs (kindsOf [(true, [(.lit (.int .i64 (.lit 4))), (.lit (.str ⟨#[106, 97, 108, 114]⟩)), (.lit (.int .i64 (.lit 2))), (.lit (.int .u32 (.lit 103))), (.lit (.int .u32 (.lit 0))), (.lit (.int .u32 (.lit 0))), (.lit (.int .i64 (.lit 2)))]), (false, [(.int .u32)])]) [0]⟩
def spc4 : PC := seedCs (kindsOf [(true, [(.lit (.int .i64 (.lit 4))), (.lit (.str ⟨#[106, 97, 108, 114]⟩)), (.lit (.int .i64 (.lit 2))), (.lit (.int .u32 (.lit 103))), (.lit (.int .u32 (.lit 0))), (.lit (.int .u32 (.lit 0))), (.lit (.int .i64 (.lit 2)))]), (false, [(.int .u32)])]) [0]
def r4_0c0 : RT := (.node (.cmp .eql (.bin .and .u32 (.var 0) (.lit 127)) (.lit 103)) (.leaf (.bool (.cmp .eql (.bin .and .u32 (.bin .shr .u32 (.var 0) (.lit 12)) (.lit 7)) (.lit 0))))
 (.leaf (.bool (.lit false))))
theorem r4_0k0 : r4_0c0.ok 0 M4 spc4 = true := by kernel_rfl
def sm4 : Sm := ⟨[(true, [(.lit (.int .i64 (.lit 4))), (.lit (.str ⟨#[106, 97, 108, 114]⟩)), (.lit (.int .i64 (.lit 2))), (.lit (.int .u32 (.lit 103))), (.lit (.int .u32 (.lit 0))), (.lit (.int .u32 (.lit 0))), (.lit (.int .i64 (.lit 2)))]), (false, [(.int .u32)])], [0], false, r4_0c0⟩
theorem sv4 (G : Nat → Option Nat) (D : Hp) : SmValid Tryd.prog (GofSm G sm4) (DofSm D sm4) 25 sm4 := smValid0 (T := T4) (fuel := 2000) mixed hF (VT4 _ _) rfl r4_0k0
def T5 : List (Nat × List Sm) := [(25, [sm1, sm2, sm3, sm4]), (36, [sm0])]
theorem VT5 (G : Nat → Option Nat) (D : Hp) : AllV Tryd.prog G D T5 := ⟨fun sm h => by
  simp only [List.mem_cons, List.not_mem_nil, or_false] at h
  rcases h with rfl | rfl | rfl | rfl
  · exact sv1 G D
  · exact sv2 G D
  · exact sv3 G D
  · exact sv4 G D, ⟨fun sm h => by
  simp only [List.mem_cons, List.not_mem_nil, or_false] at h
  rcases h with rfl
  · exact sv0 G D, trivial⟩⟩
noncomputable def M5 : TT (SV × SP) := evFnD (cfgT F (fun _ => none) hpE T5) 2000 25 (patAs 0 [(true, [(.lit (.int .i64 (.lit 5))), (.lit (.str ⟨#[98, 101, 113]⟩)), (.lit (.int .i64 (.lit 3))), (.lit (.int .u32 (.lit 99))), (.lit (.int .u32 (.lit 0))), (.lit (.int .u32 (.lit 0))), (.lit (.int .i64 (.lit 3)))]), (false, [(.int .u32)])]) ⟨hpE, seedCs (kindsOf [(true, [(.lit (.int .i64 (.lit 5))), (.lit (.str ⟨#[98, 101, 113]⟩)), (.lit (.int .i64 (.lit 3))), (.lit (.int .u32 (.lit 99))), (.lit (.int .u32 (.lit 0))), (.lit (.int .u32 (.lit 0))), (.lit (.int .i64 (.lit 3)))]), (false, [(.int .u32)])]) [0]⟩
def spc5 : PC := seedCs (kindsOf [(true, [(.lit (.int .i64 (.lit 5))), (.lit (.str ⟨#[98, 101, 113]⟩)), (.lit (.int .i64 (.lit 3))), (.lit (.int .u32 (.lit 99))), (.lit (.int .u32 (.lit 0))), (.lit (.int .u32 (.lit 0))), (.lit (.int .i64 (.lit 3)))]), (false, [(.int .u32)])]) [0]
def r5_0c0 : RT := (.node (.cmp .eql (.bin .and .u32 (.var 0) (.lit 127)) (.lit 99)) (.leaf (.bool (.cmp .eql (.bin .and .u32 (.bin .shr .u32 (.var 0) (.lit 12)) (.lit 7)) (.lit 0))))
 (.leaf (.bool (.lit false))))
theorem r5_0k0 : r5_0c0.ok 0 M5 spc5 = true := by kernel_rfl
def sm5 : Sm := ⟨[(true, [(.lit (.int .i64 (.lit 5))), (.lit (.str ⟨#[98, 101, 113]⟩)), (.lit (.int .i64 (.lit 3))), (.lit (.int .u32 (.lit 99))), (.lit (.int .u32 (.lit 0))), (.lit (.int .u32 (.lit 0))), (.lit (.int .i64 (.lit 3)))]), (false, [(.int .u32)])], [0], false, r5_0c0⟩
theorem sv5 (G : Nat → Option Nat) (D : Hp) : SmValid Tryd.prog (GofSm G sm5) (DofSm D sm5) 25 sm5 := smValid0 (T := T5) (fuel := 2000) mixed hF (VT5 _ _) rfl r5_0k0
def T6 : List (Nat × List Sm) := [(25, [sm1, sm2, sm3, sm4, sm5]), (36, [sm0])]
theorem VT6 (G : Nat → Option Nat) (D : Hp) : AllV Tryd.prog G D T6 := ⟨fun sm h => by
  simp only [List.mem_cons, List.not_mem_nil, or_false] at h
  rcases h with rfl | rfl | rfl | rfl | rfl
  · exact sv1 G D
  · exact sv2 G D
  · exact sv3 G D
  · exact sv4 G D
  · exact sv5 G D, ⟨fun sm h => by
  simp only [List.mem_cons, List.not_mem_nil, or_false] at h
  rcases h with rfl
  · exact sv0 G D, trivial⟩⟩
noncomputable def M6 : TT (SV × SP) := evFnD (cfgT F (fun _ => none) hpE T6) 2000 25 (patAs 0 [(true, [(.lit (.int .i64 (.lit 6))), (.lit (.str ⟨#[98, 110, 101]⟩)), (.lit (.int .i64 (.lit 3))), (.lit (.int .u32 (.lit 99))), (.lit (.int .u32 (.lit 1))), (.lit (.int .u32 (.lit 0))), (.lit (.int .i64 (.lit 3)))]), (false, [(.int .u32)])]) ⟨hpE, seedCs (kindsOf [(true, [(.lit (.int .i64 (.lit 6))), (.lit (.str ⟨#[98, 110, 101]⟩)), (.lit (.int .i64 (.lit 3))), (.lit (.int .u32 (.lit 99))), (.lit (.int .u32 (.lit 1))), (.lit (.int .u32 (.lit 0))), (.lit (.int .i64 (.lit 3)))]), (false, [(.int .u32)])]) [0]⟩
def spc6 : PC := seedCs (kindsOf [(true, [(.lit (.int .i64 (.lit 6))), (.lit (.str ⟨#[98, 110, 101]⟩)), (.lit (.int .i64 (.lit 3))), (.lit (.int .u32 (.lit 99))), (.lit (.int .u32 (.lit 1))), (.lit (.int .u32 (.lit 0))), (.lit (.int .i64 (.lit 3)))]), (false, [(.int .u32)])]) [0]
def r6_0c0 : RT := (.node (.cmp .eql (.bin .and .u32 (.var 0) (.lit 127)) (.lit 99)) (.leaf (.bool (.cmp .eql (.bin .and .u32 (.bin .shr .u32 (.var 0) (.lit 12)) (.lit 7)) (.lit 1))))
 (.leaf (.bool (.lit false))))
theorem r6_0k0 : r6_0c0.ok 0 M6 spc6 = true := by kernel_rfl
def sm6 : Sm := ⟨[(true, [(.lit (.int .i64 (.lit 6))), (.lit (.str ⟨#[98, 110, 101]⟩)), (.lit (.int .i64 (.lit 3))), (.lit (.int .u32 (.lit 99))), (.lit (.int .u32 (.lit 1))), (.lit (.int .u32 (.lit 0))), (.lit (.int .i64 (.lit 3)))]), (false, [(.int .u32)])], [0], false, r6_0c0⟩
theorem sv6 (G : Nat → Option Nat) (D : Hp) : SmValid Tryd.prog (GofSm G sm6) (DofSm D sm6) 25 sm6 := smValid0 (T := T6) (fuel := 2000) mixed hF (VT6 _ _) rfl r6_0k0
def T7 : List (Nat × List Sm) := [(25, [sm1, sm2, sm3, sm4, sm5, sm6]), (36, [sm0])]
theorem VT7 (G : Nat → Option Nat) (D : Hp) : AllV Tryd.prog G D T7 := ⟨fun sm h => by
  simp only [List.mem_cons, List.not_mem_nil, or_false] at h
  rcases h with rfl | rfl | rfl | rfl | rfl | rfl
  · exact sv1 G D
  · exact sv2 G D
  · exact sv3 G D
  · exact sv4 G D
  · exact sv5 G D
  · exact sv6 G D, ⟨fun sm h => by
  simp only [List.mem_cons, List.not_mem_nil, or_false] at h
  rcases h with rfl
  · exact sv0 G D, trivial⟩⟩
noncomputable def M7 : TT (SV × SP) := evFnD (cfgT F (fun _ => none) hpE T7) 2000 25 (patAs 0 [(true, [(.lit (.int .i64 (.lit 7))), (.lit (.str ⟨#[98, 108, 116]⟩)), (.lit (.int .i64 (.lit 3))), (.lit (.int .u32 (.lit 99))), (.lit (.int .u32 (.lit 4))), (.lit (.int .u32 (.lit 0))), (.lit (.int .i64 (.lit 3)))]), (false, [(.int .u32)])]) ⟨hpE, seedCs (kindsOf [(true, [(.lit (.int .i64 (.lit 7))), (.lit (.str ⟨#[98, 108, 116]⟩)), (.lit (.int .i64 (.lit 3))), (.lit (.int .u32 (.lit 99))), (.lit (.int .u32 (.lit 4))), (.lit (.int .u32 (.lit 0))), (.lit (.int .i64 (.lit 3)))]), (false, [(.int .u32)])]) [0]⟩
def spc7 : PC := seedCs (kindsOf [(true, [(.lit (.int .i64 (.lit 7))), (.lit (.str ⟨#[98, 108, 116]⟩)), (.lit (.int .i64 (.lit 3))), (.lit (.int .u32 (.lit 99))), (.lit (.int .u32 (.lit 4))), (.lit (.int .u32 (.lit 0))), (.lit (.int .i64 (.lit 3)))]), (false, [(.int .u32)])]) [0]
def r7_0c0 : RT := (.node (.cmp .eql (.bin .and .u32 (.var 0) (.lit 127)) (.lit 99)) (.leaf (.bool (.cmp .eql (.bin .and .u32 (.bin .shr .u32 (.var 0) (.lit 12)) (.lit 7)) (.lit 4))))
 (.leaf (.bool (.lit false))))
theorem r7_0k0 : r7_0c0.ok 0 M7 spc7 = true := by kernel_rfl
def sm7 : Sm := ⟨[(true, [(.lit (.int .i64 (.lit 7))), (.lit (.str ⟨#[98, 108, 116]⟩)), (.lit (.int .i64 (.lit 3))), (.lit (.int .u32 (.lit 99))), (.lit (.int .u32 (.lit 4))), (.lit (.int .u32 (.lit 0))), (.lit (.int .i64 (.lit 3)))]), (false, [(.int .u32)])], [0], false, r7_0c0⟩
theorem sv7 (G : Nat → Option Nat) (D : Hp) : SmValid Tryd.prog (GofSm G sm7) (DofSm D sm7) 25 sm7 := smValid0 (T := T7) (fuel := 2000) mixed hF (VT7 _ _) rfl r7_0k0
def T8 : List (Nat × List Sm) := [(25, [sm1, sm2, sm3, sm4, sm5, sm6, sm7]), (36, [sm0])]
theorem VT8 (G : Nat → Option Nat) (D : Hp) : AllV Tryd.prog G D T8 := ⟨fun sm h => by
  simp only [List.mem_cons, List.not_mem_nil, or_false] at h
  rcases h with rfl | rfl | rfl | rfl | rfl | rfl | rfl
  · exact sv1 G D
  · exact sv2 G D
  · exact sv3 G D
  · exact sv4 G D
  · exact sv5 G D
  · exact sv6 G D
  · exact sv7 G D, ⟨fun sm h => by
  simp only [List.mem_cons, List.not_mem_nil, or_false] at h
  rcases h with rfl
  · exact sv0 G D, trivial⟩⟩
noncomputable def M8 : TT (SV × SP) := evFnD (cfgT F (fun _ => none) hpE T8) 2000 25 (patAs 0 [(true, [(.lit (.int .i64 (.lit 8))), (.lit (.str ⟨#[98, 103, 101]⟩)), (.lit (.int .i64 (.lit 3))), (.lit (.int .u32 (.lit 99))), (.lit (.int .u32 (.lit 5))), (.lit (.int .u32 (.lit 0))), (.lit (.int .i64 (.lit 3)))]), (false, [(.int .u32)])]) ⟨hpE, seedCs (kindsOf [(true, [(.lit (.int .i64 (.lit 8))), (.lit (.str ⟨#[98, 103, 101]⟩)), (.lit (.int .i64 (.lit 3))), (.lit (.int .u32 (.lit 99))), (.lit (.int .u32 (.lit 5))), (.lit (.int .u32 (.lit 0))), (.lit (.int .i64 (.lit 3)))]), (false, [(.int .u32)])]) [0]⟩
def spc8 : PC := seedCs (kindsOf [(true, [(.lit (.int .i64 (.lit 8))), (.lit (.str ⟨#[98, 103, 101]⟩)), (.lit (.int .i64 (.lit 3))), (.lit (.int .u32 (.lit 99))), (.lit (.int .u32 (.lit 5))), (.lit (.int .u32 (.lit 0))), (.lit (.int .i64 (.lit 3)))]), (false, [(.int .u32)])]) [0]
def r8_0c0 : RT := (.node (.cmp .eql (.bin .and .u32 (.var 0) (.lit 127)) (.lit 99)) (.leaf (.bool (.cmp .eql (.bin .and .u32 (.bin .shr .u32 (.var 0) (.lit 12)) (.lit 7)) (.lit 5))))
 (.leaf (.bool (.lit false))))
theorem r8_0k0 : r8_0c0.ok 0 M8 spc8 = true := by kernel_rfl
def sm8 : Sm := ⟨[(true, [(.lit (.int .i64 (.lit 8))), (.lit (.str ⟨#[98, 103, 101]⟩)), (.lit (.int .i64 (.lit 3))), (.lit (.int .u32 (.lit 99))), (.lit (.int .u32 (.lit 5))), (.lit (.int .u32 (.lit 0))), (.lit (.int .i64 (.lit 3)))]), (false, [(.int .u32)])], [0], false, r8_0c0⟩
theorem sv8 (G : Nat → Option Nat) (D : Hp) : SmValid Tryd.prog (GofSm G sm8) (DofSm D sm8) 25 sm8 := smValid0 (T := T8) (fuel := 2000) mixed hF (VT8 _ _) rfl r8_0k0
def T9 : List (Nat × List Sm) := [(25, [sm1, sm2, sm3, sm4, sm5, sm6, sm7, sm8]), (36, [sm0])]
theorem VT9 (G : Nat → Option Nat) (D : Hp) : AllV Tryd.prog G D T9 := ⟨fun sm h => by
  simp only [List.mem_cons, List.not_mem_nil, or_false] at h
  rcases h with rfl | rfl | rfl | rfl | rfl | rfl | rfl | rfl
  · exact sv1 G D
  · exact sv2 G D
  · exact sv3 G D
  · exact sv4 G D
  · exact sv5 G D
  · exact sv6 G D
  · exact sv7 G D
  · exact sv8 G D, ⟨fun sm h => by
  simp only [List.mem_cons, List.not_mem_nil, or_false] at h
  rcases h with rfl
  · exact sv0 G D, trivial⟩⟩
noncomputable def M9 : TT (SV × SP) := evFnD (cfgT F (fun _ => none) hpE T9) 2000 25 (patAs 0 [(true, [(.lit (.int .i64 (.lit 9))), (.lit (.str ⟨#[98, 108, 116, 117]⟩)), (.lit (.int .i64 (.lit 3))), (.lit (.int .u32 (.lit 99))), (.lit (.int .u32 (.lit 6))), (.lit (.int .u32 (.lit 0))), (.lit (.int .i64 (.lit 3)))]), (false, [(.int .u32)])]) ⟨hpE, seedCs (kindsOf [(true, [(.lit (.int .i64 (.lit 9))), (.lit (.str ⟨#[98, 108, 116, 117]⟩)), (.lit (.int .i64 (.lit 3))), (.lit (.int .u32 (.lit 99))), (.lit (.int .u32 (.lit 6))), (.lit (.int .u32 (.lit 0))), (.lit (.int .i64 (.lit 3)))]), (false, [(.int .u32)])]) [0]⟩
def spc9 : PC := seedCs (kindsOf [(true, [(.lit (.int .i64 (.lit 9))), (.lit (.str ⟨#[98, 108, 116, 117]⟩)), (.lit (.int .i64 (.lit 3))), (.lit (.int .u32 (.lit 99))), (.lit (.int .u32 (.lit 6))), (.lit (.int .u32 (.lit 0))), (.lit (.int .i64 (.lit 3)))]), (false, [(.int .u32)])]) [0]
def r9_0c0 : RT := (.node (.cmp .eql (.bin .and .u32 (.var 0) (.lit 127)) (.lit 99)) (.leaf (.bool (.cmp .eql (.bin .and .u32 (.bin .shr .u32 (.var 0) (.lit 12)) (.lit 7)) (.lit 6))))
 (.leaf (.bool (.lit false))))
theorem r9_0k0 : r9_0c0.ok 0 M9 spc9 = true := by kernel_rfl
def sm9 : Sm := ⟨[(true, [(.lit (.int .i64 (.lit 9))), (.lit (.str ⟨#[98, 108, 116, 117]⟩)), (.lit (.int .i64 (.lit 3))), (.lit (.int .u32 (.lit 99))), (.lit (.int .u32 (.lit 6))), (.lit (.int .u32 (.lit 0))), (.lit (.int .i64 (.lit 3)))]), (false, [(.int .u32)])], [0], false, r9_0c0⟩
theorem sv9 (G : Nat → Option Nat) (D : Hp) : SmValid Tryd.prog (GofSm G sm9) (DofSm D sm9) 25 sm9 := smValid0 (T := T9) (fuel := 2000) mixed hF (VT9 _ _) rfl r9_0k0
def T10 : List (Nat × List Sm) := [(25, [sm1, sm2, sm3, sm4, sm5, sm6, sm7, sm8, sm9]), (36, [sm0])]
theorem VT10 (G : Nat → Option Nat) (D : Hp) : AllV Tryd.prog G D T10 := ⟨fun sm h => by
  simp only [List.mem_cons, List.not_mem_nil, or_false] at h
  rcases h with rfl | rfl | rfl | rfl | rfl | rfl | rfl | rfl | rfl
  · exact sv1 G D
  · exact sv2 G D
  · exact sv3 G D
  · exact sv4 G D
  · exact sv5 G D
  · exact sv6 G D
  · exact sv7 G D
  · exact sv8 G D
  · exact sv9 G D, ⟨fun sm h => by
  simp only [List.mem_cons, List.not_mem_nil, or_false] at h
  rcases h with rfl
  · exact sv0 G D, trivial⟩⟩
noncomputable def M10 : TT (SV × SP) := evFnD (cfgT F (fun _ => none) hpE T10) 2000 25 (patAs 0 [(true, [(.lit (.int .i64 (.lit 10))), (.lit (.str ⟨#[98, 103, 101, 117]⟩)), (.lit (.int .i64 (.lit 3))), (.lit (.int .u32 (.lit 99))), (.lit (.int .u32 (.lit 7))), (.lit (.int .u32 (.lit 0))), (.lit (.int .i64 (.lit 3)))]), (false, [(.int .u32)])]) ⟨hpE, seedCs (kindsOf [(true, [(.lit (.int .i64 (.lit 10))), (.lit (.str ⟨#[98, 103, 101, 117]⟩)), (.lit (.int .i64 (.lit 3))), (.lit (.int .u32 (.lit 99))), (.lit (.int .u32 (.lit 7))), (.lit (.int .u32 (.lit 0))), (.lit (.int .i64 (.lit 3)))]), (false, [(.int .u32)])]) [0]⟩
def spc10 : PC := seedCs (kindsOf [(true, [(.lit (.int .i64 (.lit 10))), (.lit (.str ⟨#[98, 103, 101, 117]⟩)), (.lit (.int .i64 (.lit 3))), (.lit (.int .u32 (.lit 99))), (.lit (.int .u32 (.lit 7))), (.lit (.int .u32 (.lit 0))), (.lit (.int .i64 (.lit 3)))]), (false, [(.int .u32)])]) [0]
def r10_0c0 : RT := (.node (.cmp .eql (.bin .and .u32 (.var 0) (.lit 127)) (.lit 99)) (.leaf (.bool (.cmp .eql (.bin .and .u32 (.bin .shr .u32 (.var 0) (.lit 12)) (.lit 7)) (.lit 7))))
 (.leaf (.bool (.lit false))))
theorem r10_0k0 : r10_0c0.ok 0 M10 spc10 = true := by kernel_rfl
def sm10 : Sm := ⟨[(true, [(.lit (.int .i64 (.lit 10))), (.lit (.str ⟨#[98, 103, 101, 117]⟩)), (.lit (.int .i64 (.lit 3))), (.lit (.int .u32 (.lit 99))), (.lit (.int .u32 (.lit 7))), (.lit (.int .u32 (.lit 0))), (.lit (.int .i64 (.lit 3)))]), (false, [(.int .u32)])], [0], false, r10_0c0⟩
theorem sv10 (G : Nat → Option Nat) (D : Hp) : SmValid Tryd.prog (GofSm G sm10) (DofSm D sm10) 25 sm10 := smValid0 (T := T10) (fuel := 2000) mixed hF (VT10 _ _) rfl r10_0k0
def T11 : List (Nat × List Sm) := [(25, [sm1, sm2, sm3, sm4, sm5, sm6, sm7, sm8, sm9, sm10]), (36, [sm0])]
theorem VT11 (G : Nat → Option Nat) (D : Hp) : AllV Tryd.prog G D T11 := ⟨fun sm h => by
  simp only [List.mem_cons, List.not_mem_nil, or_false] at h
  rcases h with rfl | rfl | rfl | rfl | rfl | rfl | rfl | rfl | rfl | rfl
  · exact sv1 G D
  · exact sv2 G D
  · exact sv3 G D
  · exact sv4 G D
  · exact sv5 G D
  · exact sv6 G D
  · exact sv7 G D
  · exact sv8 G D
  · exact sv9 G D
  · exact sv10 G D, ⟨fun sm h => by
  simp only [List.mem_cons, List.not_mem_nil, or_false] at h
  rcases h with rfl
  · exact sv0 G D, trivial⟩⟩
noncomputable def M11 : TT (SV × SP) := evFnD (cfgT F (fun _ => none) hpE T11) 2000 25 (patAs 0 [(true, [(.lit (.int .i64 (.lit 11))), (.lit (.str ⟨#[108, 98]⟩)), (.lit (.int .i64 (.lit 2))), (.lit (.int .u32 (.lit 3))), (.lit (.int .u32 (.lit 0))), (.lit (.int .u32 (.lit 0))), (.lit (.int .i64 (.lit 4)))]), (false, [(.int .u32)])]) ⟨hpE, seedCs (kindsOf [(true, [(.lit (.int .i64 (.lit 11))), (.lit (.str ⟨#[108, 98]⟩)), (.lit (.int .i64 (.lit 2))), (.lit (.int .u32 (.lit 3))), (.lit (.int .u32 (.lit 0))), (.lit (.int .u32 (.lit 0))), (.lit (.int .i64 (.lit 4)))]), (false, [(.int .u32)])]) [0]⟩
def spc11 : PC := seedCs (kindsOf [(true, [(.lit (.int .i64 (.lit 11))), (.lit (.str ⟨#[108, 98]⟩)), (.lit (.int .i64 (.lit 2))), (.lit (.int .u32 (.lit 3))), (.lit (.int .u32 (.lit 0))), (.lit (.int .u32 (.lit 0))), (.lit (.int .i64 (.lit 4)))]), (false, [(.int .u32)])]) [0]
def r11_0c0 : RT := (.node (.cmp .eql (.bin .and .u32 (.var 0) (.lit 127)) (.lit 3)) (.leaf (.bool (.cmp .eql (.bin .and .u32 (.bin .shr .u32 (.var 0) (.lit 12)) (.lit 7)) (.lit 0))))
 (.leaf (.bool (.lit false))))
theorem r11_0k0 : r11_0c0.ok 0 M11 spc11 = true := by kernel_rfl
def sm11 : Sm := ⟨[(true, [(.lit (.int .i64 (.lit 11))), (.lit (.str ⟨#[108, 98]⟩)), (.lit (.int .i64 (.lit 2))), (.lit (.int .u32 (.lit 3))), (.lit (.int .u32 (.lit 0))), (.lit (.int .u32 (.lit 0))), (.lit (.int .i64 (.lit 4)))]), (false, [(.int .u32)])], [0], false, r11_0c0⟩
theorem sv11 (G : Nat → Option Nat) (D : Hp) : SmValid Tryd.prog (GofSm G sm11) (DofSm D sm11) 25 sm11 := smValid0 (T := T11) (fuel := 2000) mixed hF (VT11 _ _) rfl r11_0k0
def T12 : List (Nat × List Sm) := [(25, [sm1, sm2, sm3, sm4, sm5, sm6, sm7, sm8, sm9, sm10, sm11]), (36, [sm0])]
theorem VT12 (G : Nat → Option Nat) (D : Hp) : AllV Tryd.prog G D T12 := ⟨fun sm h => by
  simp only [List.mem_cons, List.not_mem_nil, or_false] at h
  rcases h with rfl | rfl | rfl | rfl | rfl | rfl | rfl | rfl | rfl | rfl | rfl
  · exact sv1 G D
  · exact sv2 G D
  · exact sv3 G D
  · exact sv4 G D
  · exact sv5 G D
  · exact sv6 G D
  · exact sv7 G D
  · exact sv8 G D
  · exact sv9 G D
  · exact sv10 G D
  · exact sv11 G D, ⟨fun sm h => by
  simp only [List.mem_cons, List.not_mem_nil, or_false] at h
  rcases h with rfl
  · exact sv0 G D, trivial⟩⟩
noncomputable def M12 : TT (SV × SP) := evFnD (cfgT F (fun _ => none) hpE T12) 2000 25 (patAs 0 [(true, [(.lit (.int .i64 (.lit 12))), (.lit (.str ⟨#[108, 104]⟩)), (.lit (.int .i64 (.lit 2))), (.lit (.int .u32 (.lit 3))), (.lit (.int .u32 (.lit 1))), (.lit (.int .u32 (.lit 0))), (.lit (.int .i64 (.lit 4)))]), (false, [(.int .u32)])]) ⟨hpE, seedCs (kindsOf [(true, [(.lit (.int .i64 (.lit 12))), (.lit (.str ⟨#[108, 104]⟩)), (.lit (.int .i64 (.lit 2))), (.lit (.int .u32 (.lit 3))), (.lit (.int .u32 (.lit 1))), (.lit (.int .u32 (.lit 0))), (.lit (.int .i64 (.lit 4)))]), (false, [(.int .u32)])]) [0]⟩
def spc12 : PC := seedCs (kindsOf [(true, [(.lit (.int .i64 (.lit 12))), (.lit (.str ⟨#[108, 104]⟩)), (.lit (.int .i64 (.lit 2))), (.lit (.int .u32 (.lit 3))), (.lit (.int .u32 (.lit 1))), (.lit (.int .u32 (.lit 0))), (.lit (.int .i64 (.lit 4)))]), (false, [(.int .u32)])]) [0]
def r12_0c0 : RT := (.node (.cmp .eql (.bin .and .u32 (.var 0) (.lit 127)) (.lit 3)) (.leaf (.bool (.cmp .eql (.bin .and .u32 (.bin .shr .u32 (.var 0) (.lit 12)) (.lit 7)) (.lit 1))))
 (.leaf (.bool (.lit false))))
theorem r12_0k0 : r12_0c0.ok 0 M12 spc12 = true := by kernel_rfl
def sm12 : Sm := ⟨[(true, [(.lit (.int .i64 (.lit 12))), (.lit (.str ⟨#[108, 104]⟩)), (.lit (.int .i64 (.lit 2))), (.lit (.int .u32 (.lit 3))), (.lit (.int .u32 (.lit 1))), (.lit (.int .u32 (.lit 0))), (.lit (.int .i64 (.lit 4)))]), (false, [(.int .u32)])], [0], false, r12_0c0⟩
theorem sv12 (G : Nat → Option Nat) (D : Hp) : SmValid Tryd.prog (GofSm G sm12) (DofSm D sm12) 25 sm12 := smValid0 (T := T12) (fuel := 2000) mixed hF (VT12 _ _) rfl r12_0k0
def T13 : List (Nat × List Sm) := [(25, [sm1, sm2, sm3, sm4, sm5, sm6, sm7, sm8, sm9, sm10, sm11, sm12]), (36, [sm0])]
theorem VT13 (G : Nat → Option Nat) (D : Hp) : AllV Tryd.prog G D T13 := ⟨fun sm h => by
  simp only [List.mem_cons, List.not_mem_nil, or_false] at h
  rcases h with rfl | rfl | rfl | rfl | rfl | rfl | rfl | rfl | rfl | rfl | rfl | rfl
  · exact sv1 G D
  · exact sv2 G D
  · exact sv3 G D
  · exact sv4 G D
  · exact sv5 G D
  · exact sv6 G D
  · exact sv7 G D
  · exact sv8 G D
  · exact sv9 G D
  · exact sv10 G D
  · exact sv11 G D
  · exact sv12 G D, ⟨fun sm h => by
  simp only [List.mem_cons, List.not_mem_nil, or_false] at h
  rcases h with rfl
  · exact sv0 G D, trivial⟩⟩
noncomputable def M13 : TT (SV × SP) := evFnD (cfgT F (fun _ => none) hpE T13) 2000 25 (patAs 0 [(true, [(.lit (.int .i64 (.lit 13))), (.lit (.str ⟨#[108, 119]⟩)), (.lit (.int .i64 (.lit 2))), (.lit (.int .u32 (.lit 3))), (.lit (.int .u32 (.lit 2))), (.lit (.int .u32 (.lit 0))), (.lit (.int .i64 (.lit 4)))]), (false, [(.int .u32)])]) ⟨hpE, seedCs (kindsOf [(true, [(.lit (.int .i64 (.lit 13))), (.lit (.str ⟨#[108, 119]⟩)), (.lit (.int .i64 (.lit 2))), (.lit (.int .u32 (.lit 3))), (.lit (.int .u32 (.lit 2))), (.lit (.int .u32 (.lit 0))), (.lit (.int .i64 (.lit 4)))]), (false, [(.int .u32)])]) [0]⟩
def spc13 : PC := seedCs (kindsOf [(true, [(.lit (.int .i64 (.lit 13))), (.lit (.str ⟨#[108, 119]⟩)), (.lit (.int .i64 (.lit 2))), (.lit (.int .u32 (.lit 3))), (.lit (.int .u32 (.lit 2))), (.lit (.int .u32 (.lit 0))), (.lit (.int .i64 (.lit 4)))]), (false, [(.int .u32)])]) [0]
def r13_0c0 : RT := (.node (.cmp .eql (.bin .and .u32 (.var 0) (.lit 127)) (.lit 3)) (.leaf (.bool (.cmp .eql (.bin .and .u32 (.bin .shr .u32 (.var 0) (.lit 12)) (.lit 7)) (.lit 2))))
 (.leaf (.bool (.lit false))))
theorem r13_0k0 : r13_0c0.ok 0 M13 spc13 = true := by kernel_rfl
def sm13 : Sm := ⟨[(true, [(.lit (.int .i64 (.lit 13))), (.lit (.str ⟨#[108, 119]⟩)), (.lit (.int .i64 (.lit 2))), (.lit (.int .u32 (.lit 3))), (.lit (.int .u32 (.lit 2))), (.lit (.int .u32 (.lit 0))), (.lit (.int .i64 (.lit 4)))]), (false, [(.int .u32)])], [0], false, r13_0c0⟩
theorem sv13 (G : Nat → Option Nat) (D : Hp) : SmValid Tryd.prog (GofSm G sm13) (DofSm D sm13) 25 sm13 := smValid0 (T := T13) (fuel := 2000) mixed hF (VT13 _ _) rfl r13_0k0
def T14 : List (Nat × List Sm) := [(25, [sm1, sm2, sm3, sm4, sm5, sm6, sm7, sm8, sm9, sm10, sm11, sm12, sm13]), (36, [sm0])]
theorem VT14 (G : Nat → Option Nat) (D : Hp) : AllV Tryd.prog G D T14 := ⟨fun sm h => by
  simp only [List.mem_cons, List.not_mem_nil, or_false] at h
  rcases h with rfl | rfl | rfl | rfl | rfl | rfl | rfl | rfl | rfl | rfl | rfl | rfl | rfl
  · exact sv1 G D
  · exact sv2 G D
  · exact sv3 G D
  · exact sv4 G D
  · exact sv5 G D
  · exact sv6 G D
  · exact sv7 G D
  · exact sv8 G D
  · exact sv9 G D
  · exact sv10 G D
  · exact sv11 G D
  · exact sv12 G D
  · exact sv13 G D, ⟨fun sm h => by
  simp only [List.mem_cons, List.not_mem_nil, or_false] at h
  rcases h with rfl
  · exact sv0 G D, trivial⟩⟩
noncomputable def M14 : TT (SV × SP) := evFnD (cfgT F (fun _ => none) hpE T14) 2000 25 (patAs 0 [(true, [(.lit (.int .i64 (.lit 14))), (.lit (.str ⟨#[108, 98, 117]⟩)), (.lit (.int .i64 (.lit 2))), (.lit (.int .u32 (.lit 3))), (.lit (.int .u32 (.lit 4))), (.lit (.int .u32 (.lit 0))), (.lit (.int .i64 (.lit 4)))]), (false, [(.int .u32)])]) ⟨hpE, seedCs (kindsOf [(true, [(.lit (.int .i64 (.lit 14))), (.lit (.str ⟨#[108, 98, 117]⟩)), (.lit (.int .i64 (.lit 2))), (.lit (.int .u32 (.lit 3))), (.lit (.int .u32 (.lit 4))), (.lit (.int .u32 (.lit 0))), (.lit (.int .i64 (.lit 4)))]), (false, [(.int .u32)])]) [0]⟩
def spc14 : PC := seedCs (kindsOf [(true, [(.lit (.int .i64 (.lit 14))), (.lit (.str ⟨#[108, 98, 117]⟩)), (.lit (.int .i64 (.lit 2))), (.lit (.int .u32 (.lit 3))), (.lit (.int .u32 (.lit 4))), (.lit (.int .u32 (.lit 0))), (.lit (.int .i64 (.lit 4)))]), (false, [(.int .u32)])]) [0]
def r14_0c0 : RT := (.node (.cmp .eql (.bin .and .u32 (.var 0) (.lit 127)) (.lit 3)) (.leaf (.bool (.cmp .eql (.bin .and .u32 (.bin .shr .u32 (.var 0) (.lit 12)) (.lit 7)) (.lit 4))))
 (.leaf (.bool (.lit false))))
theorem r14_0k0 : r14_0c0.ok 0 M14 spc14 = true := by kernel_rfl
def sm14 : Sm := ⟨[(true, [(.lit (.int .i64 (.lit 14))), (.lit (.str ⟨#[108, 98, 117]⟩)), (.lit (.int .i64 (.lit 2))), (.lit (.int .u32 (.lit 3))), (.lit (.int .u32 (.lit 4))), (.lit (.int .u32 (.lit 0))), (.lit (.int .i64 (.lit 4)))]), (false, [(.int .u32)])], [0], false, r14_0c0⟩
theorem sv14 (G : Nat → Option Nat) (D : Hp) : SmValid Tryd.prog (GofSm G sm14) (DofSm D sm14) 25 sm14 := smValid0 (T := T14) (fuel := 2000) mixed hF (VT14 _ _) rfl r14_0k0
def T15 : List (Nat × List Sm) := [(25, [sm1, sm2, sm3, sm4, sm5, sm6, sm7, sm8, sm9, sm10, sm11, sm12, sm13, sm14]), (36, [sm0])]
theorem VT15 (G : Nat → Option Nat) (D : Hp) : AllV Tryd.prog G D T15 := ⟨fun sm h => by
  simp only [List.mem_cons, List.not_mem_nil, or_false] at h
  rcases h with rfl | rfl | rfl | rfl | rfl | rfl | rfl | rfl | rfl | rfl | rfl | rfl | rfl | rfl
  · exact sv1 G D
  · exact sv2 G D
  · exact sv3 G D
  · exact sv4 G D
  · exact sv5 G D
  · exact sv6 G D
  · exact sv7 G D
  · exact sv8 G D
  · exact sv9 G D
  · exact sv10 G D
  · exact sv11 G D
  · exact sv12 G D
  · exact sv13 G D
  · exact sv14 G D, ⟨fun sm h => by
  simp only [List.mem_cons, List.not_mem_nil, or_false] at h
  rcases h with rfl
  · exact sv0 G D, trivial⟩⟩
noncomputable def M15 : TT (SV × SP) := evFnD (cfgT F (fun _ => none) hpE T15) 2000 25 (patAs 0 [(true, [(.lit (.int .i64 (.lit 15))), (.lit (.str ⟨#[108, 104, 117]⟩)), (.lit (.int .i64 (.lit 2))), (.lit (.int .u32 (.lit 3))), (.lit (.int .u32 (.lit 5))), (.lit (.int .u32 (.lit 0))), (.lit (.int .i64 (.lit 4)))]), (false, [(.int .u32)])]) ⟨hpE, seedCs (kindsOf [(true, [(.lit (.int .i64 (.lit 15))), (.lit (.str ⟨#[108, 104, 117]⟩)), (.lit (.int .i64 (.lit 2))), (.lit (.int .u32 (.lit 3))), (.lit (.int .u32 (.lit 5))), (.lit (.int .u32 (.lit 0))), (.lit (.int .i64 (.lit 4)))]), (false, [(.int .u32)])]) [0]⟩
def spc15 : PC := seedCs (kindsOf [(true, [(.lit (.int .i64 (.lit 15))), (.lit (.str ⟨#[108, 104, 117]⟩)), (.lit (.int .i64 (.lit 2))), (.lit (.int .u32 (.lit 3))), (.lit (.int .u32 (.lit 5))), (.lit (.int .u32 (.lit 0))), (.lit (.int .i64 (.lit 4)))]), (false, [(.int .u32)])]) [0]
def r15_0c0 : RT := (.node (.cmp .eql (.bin .and .u32 (.var 0) (.lit 127)) (.lit 3)) (.leaf (.bool (.cmp .eql (.bin .and .u32 (.bin .shr .u32 (.var 0) (.lit 12)) (.lit 7)) (.lit 5))))
 (.leaf (.bool (.lit false))))
theorem r15_0k0 : r15_0c0.ok 0 M15 spc15 = true := by kernel_rfl
def sm15 : Sm := ⟨[(true, [(.lit (.int .i64 (.lit 15))), (.lit (.str ⟨#[108, 104, 117]⟩)), (.lit (.int .i64 (.lit 2))), (.lit (.int .u32 (.lit 3))), (.lit (.int .u32 (.lit 5))), (.lit (.int .u32 (.lit 0))), (.lit (.int .i64 (.lit 4)))]), (false, [(.int .u32)])], [0], false, r15_0c0⟩
theorem sv15 (G : Nat → Option Nat) (D : Hp) : SmValid Tryd.prog (GofSm G sm15) (DofSm D sm15) 25 sm15 := smValid0 (T := T15) (fuel := 2000) mixed hF (VT15 _ _) rfl r15_0k0
def T16 : List (Nat × List Sm) := [(25, [sm1, sm2, sm3, sm4, sm5, sm6, sm7, sm8, sm9, sm10, sm11, sm12, sm13, sm14, sm15]), (36, [sm0])]
theorem VT16 (G : Nat → Option Nat) (D : Hp) : AllV Tryd.prog G D T16 := ⟨fun sm h => by
  simp only [List.mem_cons, List.not_mem_nil, or_false] at h
  rcases h with rfl | rfl | rfl | rfl | rfl | rfl | rfl | rfl | rfl | rfl | rfl | rfl | rfl | rfl | rfl
  · exact sv1 G D
  · exact sv2 G D
  · exact sv3 G D
  · exact sv4 G D
  · exact sv5 G D
  · exact sv6 G D
  · exact sv7 G D
  · exact sv8 G D
  · exact sv9 G D
  · exact sv10 G D
  · exact sv11 G D
  · exact sv12 G D
  · exact sv13 G D
  · exact sv14 G D
  · exact sv15 G D, ⟨fun sm h => by
  simp only [List.mem_cons, List.not_mem_nil, or_false] at h
  rcases h with rfl
  · exact sv0 G D, trivial⟩⟩
noncomputable def M16 : TT (SV × SP) := evFnD (cfgT F (fun _ => none) hpE T16) 2000 25 (patAs 0 [(true, [(.lit (.int .i64 (.lit 16))), (.lit (.str ⟨#[115, 98]⟩)), (.lit (.int .i64 (.lit 4))), (.lit (.int .u32 (.lit 35))), (.lit (.int .u32 (.lit 0))), (.lit (.int .u32 (.lit 0))), (.lit (.int .i64 (.lit 5)))]), (false, [(.int .u32)])]) ⟨hpE, seedCs (kindsOf [(true, [(.lit (.int .i64 (.lit 16))), (.lit (.str ⟨#[115, 98]⟩)), (.lit (.int .i64 (.lit 4))), (.lit (.int .u32 (.lit 35))), (.lit (.int .u32 (.lit 0))), (.lit (.int .u32 (.lit 0))), (.lit (.int .i64 (.lit 5)))]), (false, [(.int .u32)])]) [0]⟩
def spc16 : PC := seedCs (kindsOf [(true, [(.lit (.int .i64 (.lit 16))), (.lit (.str ⟨#[115, 98]⟩)), (.lit (.int .i64 (.lit 4))), (.lit (.int .u32 (.lit 35))), (.lit (.int .u32 (.lit 0))), (.lit (.int .u32 (.lit 0))), (.lit (.int .i64 (.lit 5)))]), (false, [(.int .u32)])]) [0]
def r16_0c0 : RT := (.node (.cmp .eql (.bin .and .u32 (.var 0) (.lit 127)) (.lit 35)) (.leaf (.bool (.cmp .eql (.bin .and .u32 (.bin .shr .u32 (.var 0) (.lit 12)) (.lit 7)) (.lit 0))))
 (.leaf (.bool (.lit false))))
theorem r16_0k0 : r16_0c0.ok 0 M16 spc16 = true := by kernel_rfl
def sm16 : Sm := ⟨[(true, [(.lit (.int .i64 (.lit 16))), (.lit (.str ⟨#[115, 98]⟩)), (.lit (.int .i64 (.lit 4))), (.lit (.int .u32 (.lit 35))), (.lit (.int .u32 (.lit 0))), (.lit (.int .u32 (.lit 0))), (.lit (.int .i64 (.lit 5)))]), (false, [(.int .u32)])], [0], false, r16_0c0⟩
theorem sv16 (G : Nat → Option Nat) (D : Hp) : SmValid Tryd.prog (GofSm G sm16) (DofSm D sm16) 25 sm16 := smValid0 (T := T16) (fuel := 2000) mixed hF (VT16 _ _) rfl r16_0k0
def T17 : List (Nat × List Sm) := [(25, [sm1, sm2, sm3, sm4, sm5, sm6, sm7, sm8, sm9, sm10, sm11, sm12, sm13, sm14, sm15, sm16]), (36, [sm0])]
theorem VT17 (G : Nat → Option Nat) (D : Hp) : AllV Tryd.prog G D T17 := ⟨fun sm h => by
  simp only [List.mem_cons, List.not_mem_nil, or_false] at h
  rcases h with rfl | rfl | rfl | rfl | rfl | rfl | rfl | rfl | rfl | rfl | rfl | rfl | rfl | rfl | rfl | rfl
  · exact sv1 G D
  · exact sv2 G D
  · exact sv3 G D
  · exact sv4 G D
  · exact sv5 G D
  · exact sv6 G D
  · exact sv7 G D
  · exact sv8 G D
  · exact sv9 G D
  · exact sv10 G D
  · exact sv11 G D
  · exact sv12 G D
  · exact sv13 G D
  · exact sv14 G D
  · exact sv15 G D
  · exact sv16 G D, ⟨fun sm h => by
  simp only [List.mem_cons, List.not_mem_nil, or_false] at h
  rcases h with rfl
  · exact sv0 G D, trivial⟩⟩
noncomputable def M17 : TT (SV × SP) := evFnD (cfgT F (fun _ => none) hpE T17) 2000 25 (patAs 0 [(true, [(.lit (.int .i64 (.lit 17))), (.lit (.str ⟨#[115, 104]⟩)), (.lit (.int .i64 (.lit 4))), (.lit (.int .u32 (.lit 35))), (.lit (.int .u32 (.lit 1))), (.lit (.int .u32 (.lit 0))), (.lit (.int .i64 (.lit 5)))]), (false, [(.int .u32)])]) ⟨hpE, seedCs (kindsOf [(true, [(.lit (.int .i64 (.lit 17))), (.lit (.str ⟨#[115, 104]⟩)), (.lit (.int .i64 (.lit 4))), (.lit (.int .u32 (.lit 35))), (.lit (.int .u32 (.lit 1))), (.lit (.int .u32 (.lit 0))), (.lit (.int .i64 (.lit 5)))]), (false, [(.int .u32)])]) [0]⟩
def spc17 : PC := seedCs (kindsOf [(true, [(.lit (.int .i64 (.lit 17))), (.lit (.str ⟨#[115, 104]⟩)), (.lit (.int .i64 (.lit 4))), (.lit (.int .u32 (.lit 35))), (.lit (.int .u32 (.lit 1))), (.lit (.int .u32 (.lit 0))), (.lit (.int .i64 (.lit 5)))]), (false, [(.int .u32)])]) [0]
def r17_0c0 : RT := (.node (.cmp .eql (.bin .and .u32 (.var 0) (.lit 127)) (.lit 35)) (.leaf (.bool (.cmp .eql (.bin .and .u32 (.bin .shr .u32 (.var 0) (.lit 12)) (.lit 7)) (.lit 1))))
 (.leaf (.bool (.lit false))))
theorem r17_0k0 : r17_0c0.ok 0 M17 spc17 = true := by kernel_rfl
def sm17 : Sm := ⟨[(true, [(.lit (.int .i64 (.lit 17))), (.lit (.str ⟨#[115, 104]⟩)), (.lit (.int .i64 (.lit 4))), (.lit (.int .u32 (.lit 35))), (.lit (.int .u32 (.lit 1))), (.lit (.int .u32 (.lit 0))), (.lit (.int .i64 (.lit 5)))]), (false, [(.int .u32)])], [0], false, r17_0c0⟩
theorem sv17 (G : Nat → Option Nat) (D : Hp) : SmValid Tryd.prog (GofSm G sm17) (DofSm D sm17) 25 sm17 := smValid0 (T := T17) (fuel := 2000) mixed hF (VT17 _ _) rfl r17_0k0
def T18 : List (Nat × List Sm) := [(25, [sm1, sm2, sm3, sm4, sm5, sm6, sm7, sm8, sm9, sm10, sm11, sm12, sm13, sm14, sm15, sm16, sm17]), (36, [sm0])]
theorem VT18 (G : Nat → Option Nat) (D : Hp) : AllV Tryd.prog G D T18 := ⟨fun sm h => by
  simp only [List.mem_cons, List.not_mem_nil, or_false] at h
  rcases h with rfl | rfl | rfl | rfl | rfl | rfl | rfl | rfl | rfl | rfl | rfl | rfl | rfl | rfl | rfl | rfl | rfl
  · exact sv1 G D
  · exact sv2 G D
  · exact sv3 G D
  · exact sv4 G D
  · exact sv5 G D
  · exact sv6 G D
  · exact sv7 G D
  · exact sv8 G D
  · exact sv9 G D
  · exact sv10 G D
  · exact sv11 G D
  · exact sv12 G D
  · exact sv13 G D
  · exact sv14 G D
  · exact sv15 G D
  · exact sv16 G D
  · exact sv17 G D, ⟨fun sm h => by
  simp only [List.mem_cons, List.not_mem_nil, or_false] at h
  rcases h with rfl
  · exact sv0 G D, trivial⟩⟩
noncomputable def M18 : TT (SV × SP) := evFnD (cfgT F (fun _ => none) hpE T18) 2000 25 (patAs 0 [(true, [(.lit (.int .i64 (.lit 18))), (.lit (.str ⟨#[115, 119]⟩)), (.lit (.int .i64 (.lit 4))), (.lit (.int .u32 (.lit 35))), (.lit (.int .u32 (.lit 2))), (.lit (.int .u32 (.lit 0))), (.lit (.int .i64 (.lit 5)))]), (false, [(.int .u32)])]) ⟨hpE, seedCs (kindsOf [(true, [(.lit (.int .i64 (.lit 18))), (.lit (.str ⟨#[115, 119]⟩)), (.lit (.int .i64 (.lit 4))), (.lit (.int .u32 (.lit 35))), (.lit (.int .u32 (.lit 2))), (.lit (.int .u32 (.lit 0))), (.lit (.int .i64 (.lit 5)))]), (false, [(.int .u32)])]) [0]⟩
def spc18 : PC := seedCs (kindsOf [(true, [(.lit (.int .i64 (.lit 18))), (.lit (.str ⟨#[115, 119]⟩)), (.lit (.int .i64 (.lit 4))), (.lit (.int .u32 (.lit 35))), (.lit (.int .u32 (.lit 2))), (.lit (.int .u32 (.lit 0))), (.lit (.int .i64 (.lit 5)))]), (false, [(.int .u32)])]) [0]
def r18_0c0 : RT := (.node (.cmp .eql (.bin .and .u32 (.var 0) (.lit 127)) (.lit 35)) (.leaf (.bool (.cmp .eql (.bin .and .u32 (.bin .shr .u32 (.var 0) (.lit 12)) (.lit 7)) (.lit 2))))
 (.leaf (.bool (.lit false))))
theorem r18_0k0 : r18_0c0.ok 0 M18 spc18 = true := by kernel_rfl
def sm18 : Sm := ⟨[(true, [(.lit (.int .i64 (.lit 18))), (.lit (.str ⟨#[115, 119]⟩)), (.lit (.int .i64 (.lit 4))), (.lit (.int .u32 (.lit 35))), (.lit (.int .u32 (.lit 2))), (.lit (.int .u32 (.lit 0))), (.lit (.int .i64 (.lit 5)))]), (false, [(.int .u32)])], [0], false, r18_0c0⟩
theorem sv18 (G : Nat → Option Nat) (D : Hp) : SmValid Tryd.prog (GofSm G sm18) (DofSm D sm18) 25 sm18 := smValid0 (T := T18) (fuel := 2000) mixed hF (VT18 _ _) rfl r18_0k0
def T19 : List (Nat × List Sm) := [(25, [sm1, sm2, sm3, sm4, sm5, sm6, sm7, sm8, sm9, sm10, sm11, sm12, sm13, sm14, sm15, sm16, sm17, sm18]), (36, [sm0])]
theorem VT19 (G : Nat → Option Nat) (D : Hp) : AllV Tryd.prog G D T19 := ⟨fun sm h => by
  simp only [List.mem_cons, List.not_mem_nil, or_false] at h
  rcases h with rfl | rfl | rfl | rfl | rfl | rfl | rfl | rfl | rfl | rfl | rfl | rfl | rfl | rfl | rfl | rfl | rfl | rfl
  · exact sv1 G D
  · exact sv2 G D
  · exact sv3 G D
  · exact sv4 G D
  · exact sv5 G D
  · exact sv6 G D
  · exact sv7 G D
  · exact sv8 G D
  · exact sv9 G D
  · exact sv10 G D
  · exact sv11 G D
  · exact sv12 G D
  · exact sv13 G D
  · exact sv14 G D
  · exact sv15 G D
  · exact sv16 G D
  · exact sv17 G D
  · exact sv18 G D, ⟨fun sm h => by
  simp only [List.mem_cons, List.not_mem_nil, or_false] at h
  rcases h with rfl
  · exact sv0 G D, trivial⟩⟩
noncomputable def M19 : TT (SV × SP) := evFnD (cfgT F (fun _ => none) hpE T19) 2000 25 (patAs 0 [(true, [(.lit (.int .i64 (.lit 19))), (.lit (.str ⟨#[97, 100, 100, 105]⟩)), (.lit (.int .i64 (.lit 2))), (.lit (.int .u32 (.lit 19))), (.lit (.int .u32 (.lit 0))), (.lit (.int .u32 (.lit 0))), (.lit (.int .i64 (.lit 1)))]), (false, [(.int .u32)])]) ⟨hpE, seedCs (kindsOf [(true, [(.lit (.int .i64 (.lit 19))), (.lit (.str ⟨#[97, 100, 100, 105]⟩)), (.lit (.int .i64 (.lit 2))), (.lit (.int .u32 (.lit 19))), (.lit (.int .u32 (.lit 0))), (.lit (.int .u32 (.lit 0))), (.lit (.int .i64 (.lit 1)))]), (false, [(.int .u32)])]) [0]⟩
def spc19 : PC := seedCs (kindsOf [(true, [(.lit (.int .i64 (.lit 19))), (.lit (.str ⟨#[97, 100, 100, 105]⟩)), (.lit (.int .i64 (.lit 2))), (.lit (.int .u32 (.lit 19))), (.lit (.int .u32 (.lit 0))), (.lit (.int .u32 (.lit 0))), (.lit (.int .i64 (.lit 1)))]), (false, [(.int .u32)])]) [0]
def r19_0c0 : RT := (.node (.cmp .eql (.bin .and .u32 (.var 0) (.lit 127)) (.lit 19)) (.leaf (.bool (.cmp .eql (.bin .and .u32 (.bin .shr .u32 (.var 0) (.lit 12)) (.lit 7)) (.lit 0))))
 (.leaf (.bool (.lit false))))
theorem r19_0k0 : r19_0c0.ok 0 M19 spc19 = true := by kernel_rfl
def sm19 : Sm := ⟨[(true, [(.lit (.int .i64 (.lit 19))), (.lit (.str ⟨#[97, 100, 100, 105]⟩)), (.lit (.int .i64 (.lit 2))), (.lit (.int .u32 (.lit 19))), (.lit (.int .u32 (.lit 0))), (.lit (.int .u32 (.lit 0))), (.lit (.int .i64 (.lit 1)))]), (false, [(.int .u32)])], [0], false, r19_0c0⟩
theorem sv19 (G : Nat → Option Nat) (D : Hp) : SmValid Tryd.prog (GofSm G sm19) (DofSm D sm19) 25 sm19 := smValid0 (T := T19) (fuel := 2000) mixed hF (VT19 _ _) rfl r19_0k0
def T20 : List (Nat × List Sm) := [(25, [sm1, sm2, sm3, sm4, sm5, sm6, sm7, sm8, sm9, sm10, sm11, sm12, sm13, sm14, sm15, sm16, sm17, sm18, sm19]), (36, [sm0])]
theorem VT20 (G : Nat → Option Nat) (D : Hp) : AllV Tryd.prog G D T20 := ⟨fun sm h => by
  simp only [List.mem_cons, List.not_mem_nil, or_false] at h
  rcases h with rfl | rfl | rfl | rfl | rfl | rfl | rfl | rfl | rfl | rfl | rfl | rfl | rfl | rfl | rfl | rfl | rfl | rfl | rfl
  · exact sv1 G D
  · exact sv2 G D
  · exact sv3 G D
  · exact sv4 G D
  · exact sv5 G D
  · exact sv6 G D
  · exact sv7 G D
  · exact sv8 G D
  · exact sv9 G D
  · exact sv10 G D
  · exact sv11 G D
  · exact sv12 G D
  · exact sv13 G D
  · exact sv14 G D
  · exact sv15 G D
  · exact sv16 G D
  · exact sv17 G D
  · exact sv18 G D
  · exact sv19 G D, ⟨fun sm h => by
  simp only [List.mem_cons, List.not_mem_nil, or_false] at h
  rcases h with rfl
  · exact sv0 G D, trivial⟩⟩
noncomputable def M20 : TT (SV × SP) := evFnD (cfgT F (fun _ => none) hpE T20) 2000 25 (patAs 0 [(true, [(.lit (.int .i64 (.lit 20))), (.lit (.str ⟨#[115, 108, 116, 105]⟩)), (.lit (.int .i64 (.lit 2))), (.lit (.int .u32 (.lit 19))), (.lit (.int .u32 (.lit 2))), (.lit (.int .u32 (.lit 0))), (.lit (.int .i64 (.lit 1)))]), (false, [(.int .u32)])]) ⟨hpE, seedCs (kindsOf [(true, [(.lit (.int .i64 (.lit 20))), (.lit (.str ⟨#[115, 108, 116, 105]⟩)), (.lit (.int .i64 (.lit 2))), (.lit (.int .u32 (.lit 19))), (.lit (.int .u32 (.lit 2))), (.lit (.int .u32 (.lit 0))), (.lit (.int .i64 (.lit 1)))]), (false, [(.int .u32)])]) [0]⟩
def spc20 : PC := seedCs (kindsOf [(true, [(.lit (.int .i64 (.lit 20))), (.lit (.str ⟨#[115, 108, 116, 105]⟩)), (.lit (.int .i64 (.lit 2))), (.lit (.int .u32 (.lit 19))), (.lit (.int .u32 (.lit 2))), (.lit (.int .u32 (.lit 0))), (.lit (.int .i64 (.lit 1)))]), (false, [(.int .u32)])]) [0]
def r20_0c0 : RT := (.node (.cmp .eql (.bin .and .u32 (.var 0) (.lit 127)) (.lit 19)) (.leaf (.bool (.cmp .eql (.bin .and .u32 (.bin .shr .u32 (.var 0) (.lit 12)) (.lit 7)) (.lit 2))))
 (.leaf (.bool (.lit false))))
theorem r20_0k0 : r20_0c0.ok 0 M20 spc20 = true := by kernel_rfl
def sm20 : Sm := ⟨[(true, [(.lit (.int .i64 (.lit 20))), (.lit (.str ⟨#[115, 108, 116, 105]⟩)), (.lit (.int .i64 (.lit 2))), (.lit (.int .u32 (.lit 19))), (.lit (.int .u32 (.lit 2))), (.lit (.int .u32 (.lit 0))), (.lit (.int .i64 (.lit 1)))]), (false, [(.int .u32)])], [0], false, r20_0c0⟩
theorem sv20 (G : Nat → Option Nat) (D : Hp) : SmValid Tryd.prog (GofSm G sm20) (DofSm D sm20) 25 sm20 := smValid0 (T := T20) (fuel := 2000) mixed hF (VT20 _ _) rfl r20_0k0
def T21 : List (Nat × List Sm) := [(25, [sm1, sm2, sm3, sm4, sm5, sm6, sm7, sm8, sm9, sm10, sm11, sm12, sm13, sm14, sm15, sm16, sm17, sm18, sm19, sm20]), (36, [sm0])]
theorem VT21 (G : Nat → Option Nat) (D : Hp) : AllV Tryd.prog G D T21 := ⟨fun sm h => by
  simp only [List.mem_cons, List.not_mem_nil, or_false] at h
  rcases h with rfl | rfl | rfl | rfl | rfl | rfl | rfl | rfl | rfl | rfl | rfl | rfl | rfl | rfl | rfl | rfl | rfl | rfl | rfl | rfl
  · exact sv1 G D
  · exact sv2 G D
  · exact sv3 G D
  · exact sv4 G D
  · exact sv5 G D
  · exact sv6 G D
  · exact sv7 G D
  · exact sv8 G D
  · exact sv9 G D
  · exact sv10 G D
  · exact sv11 G D
  · exact sv12 G D
  · exact sv13 G D
  · exact sv14 G D
  · exact sv15 G D
  · exact sv16 G D
  · exact sv17 G D
  · exact sv18 G D
  · exact sv19 G D
  · exact sv20 G D, ⟨fun sm h => by
  simp only [List.mem_cons, List.not_mem_nil, or_false] at h
  rcases h with rfl
  · exact sv0 G D, trivial⟩⟩
noncomputable def M21 : TT (SV × SP) := evFnD (cfgT F (fun _ => none) hpE T21) 2000 25 (patAs 0 [(true, [(.lit (.int .i64 (.lit 21))), (.lit (.str ⟨#[115, 108, 116, 105, 117]⟩)), (.lit (.int .i64 (.lit 2))), (.lit (.int .u32 (.lit 19))), (.lit (.int .u32 (.lit 3))), (.lit (.int .u32 (.lit 0))), (.lit (.int .i64 (.lit 1)))]), (false, [(.int .u32)])]) ⟨hpE, seedCs (kindsOf [(true, [(.lit (.int .i64 (.lit 21))), (.lit (.str ⟨#[115, 108, 116, 105, 117]⟩)), (.lit (.int .i64 (.lit 2))), (.lit (.int .u32 (.lit 19))), (.lit (.int .u32 (.lit 3))), (.lit (.int .u32 (.lit 0))), (.lit (.int .i64 (.lit 1)))]), (false, [(.int .u32)])]) [0]⟩
def spc21 : PC := seedCs (kindsOf [(true, [(.lit (.int .i64 (.lit 21))), (.lit (.str ⟨#[115, 108, 116, 105, 117]⟩)), (.lit (.int .i64 (.lit 2))), (.lit (.int .u32 (.lit 19))), (.lit (.int .u32 (.lit 3))), (.lit (.int .u32 (.lit 0))), (.lit (.int .i64 (.lit 1)))]), (false, [(.int .u32)])]) [0]
def r21_0c0 : RT := (.node (.cmp .eql (.bin .and .u32 (.var 0) (.lit 127)) (.lit 19)) (.leaf (.bool (.cmp .eql (.bin .and .u32 (.bin .shr .u32 (.var 0) (.lit 12)) (.lit 7)) (.lit 3))))
 (.leaf (.bool (.lit false))))
theorem r21_0k0 : r21_0c0.ok 0 M21 spc21 = true := by kernel_rfl
def sm21 : Sm := ⟨[(true, [(.lit (.int .i64 (.lit 21))), (.lit (.str ⟨#[115, 108, 116, 105, 117]⟩)), (.lit (.int .i64 (.lit 2))), (.lit (.int .u32 (.lit 19))), (.lit (.int .u32 (.lit 3))), (.lit (.int .u32 (.lit 0))), (.lit (.int .i64 (.lit 1)))]), (false, [(.int .u32)])], [0], false, r21_0c0⟩
theorem sv21 (G : Nat → Option Nat) (D : Hp) : SmValid Tryd.prog (GofSm G sm21) (DofSm D sm21) 25 sm21 := smValid0 (T := T21) (fuel := 2000) mixed hF (VT21 _ _) rfl r21_0k0
def T22 : List (Nat × List Sm) := [(25, [sm1, sm2, sm3, sm4, sm5, sm6, sm7, sm8, sm9, sm10, sm11, sm12, sm13, sm14, sm15, sm16, sm17, sm18, sm19, sm20, sm21]), (36, [sm0])]
theorem VT22 (G : Nat → Option Nat) (D : Hp) : AllV Tryd.prog G D T22 := ⟨fun sm h => by
  simp only [List.mem_cons, List.not_mem_nil, or_false] at h
  rcases h with rfl | rfl | rfl | rfl | rfl | rfl | rfl | rfl | rfl | rfl | rfl | rfl | rfl | rfl | rfl | rfl | rfl | rfl | rfl | rfl | rfl
  · exact sv1 G D
  · exact sv2 G D
  · exact sv3 G D
  · exact sv4 G D
  · exact sv5 G D
  · exact sv6 G D
  · exact sv7 G D
  · exact sv8 G D
  · exact sv9 G D
  · exact sv10 G D
  · exact sv11 G D
  · exact sv12 G D
  · exact sv13 G D
  · exact sv14 G D
  · exact sv15 G D
  · exact sv16 G D
  · exact sv17 G D
  · exact sv18 G D
  · exact sv19 G D
  · exact sv20 G D
  · exact sv21 G D, ⟨fun sm h => by
  simp only [List.mem_cons, List.not_mem_nil, or_false] at h
  rcases h with rfl
  · exact sv0 G D, trivial⟩⟩
noncomputable def M22 : TT (SV × SP) := evFnD (cfgT F (fun _ => none) hpE T22) 2000 25 (patAs 0 [(true, [(.lit (.int .i64 (.lit 22))), (.lit (.str ⟨#[120, 111, 114, 105]⟩)), (.lit (.int .i64 (.lit 2))), (.lit (.int .u32 (.lit 19))), (.lit (.int .u32 (.lit 4))), (.lit (.int .u32 (.lit 0))), (.lit (.int .i64 (.lit 1)))]), (false, [(.int .u32)])]) ⟨hpE, seedCs (kindsOf [(true, [(.lit (.int .i64 (.lit 22))), (.lit (.str ⟨#[120, 111, 114, 105]⟩)), (.lit (.int .i64 (.lit 2))), (.lit (.int .u32 (.lit 19))), (.lit (.int .u32 (.lit 4))), (.lit (.int .u32 (.lit 0))), (.lit (.int .i64 (.lit 1)))]), (false, [(.int .u32)])]) [0]⟩
def spc22 : PC := seedCs (kindsOf [(true, [(.lit (.int .i64 (.lit 22))), (.lit (.str ⟨#[120, 111, 114, 105]⟩)), (.lit (.int .i64 (.lit 2))), (.lit (.int .u32 (.lit 19))), (.lit (.int .u32 (.lit 4))), (.lit (.int .u32 (.lit 0))), (.lit (.int .i64 (.lit 1)))]), (false, [(.int .u32)])]) [0]
def r22_0c0 : RT := (.node (.cmp .eql (.bin .and .u32 (.var 0) (.lit 127)) (.lit 19)) (.leaf (.bool (.cmp .eql (.bin .and .u32 (.bin .shr .u32 (.var 0) (.lit 12)) (.lit 7)) (.lit 4))))
 (.leaf (.bool (.lit false))))
theorem r22_0k0 : r22_0c0.ok 0 M22 spc22 = true := by kernel_rfl
def sm22 : Sm := ⟨[(true, [(.lit (.int .i64 (.lit 22))), (.lit (.str ⟨#[120, 111, 114, 105]⟩)), (.lit (.int .i64 (.lit 2))), (.lit (.int .u32 (.lit 19))), (.lit (.int .u32 (.lit 4))), (.lit (.int .u32 (.lit 0))), (.lit (.int .i64 (.lit 1)))]), (false, [(.int .u32)])], [0], false, r22_0c0⟩
theorem sv22 (G : Nat → Option Nat) (D : Hp) : SmValid Tryd.prog (GofSm G sm22) (DofSm D sm22) 25 sm22 := smValid0 (T := T22) (fuel := 2000) mixed hF (VT22 _ _) rfl r22_0k0
def T23 : List (Nat × List Sm) := [(25, [sm1, sm2, sm3, sm4, sm5, sm6, sm7, sm8, sm9, sm10, sm11, sm12, sm13, sm14, sm15, sm16, sm17, sm18, sm19, sm20, sm21, sm22]), (36, [sm0])]
theorem VT23 (G : Nat → Option Nat) (D : Hp) : AllV Tryd.prog G D T23 := ⟨fun sm h => by
  simp only [List.mem_cons, List.not_mem_nil, or_false] at h
  rcases h with rfl | rfl | rfl | rfl | rfl | rfl | rfl | rfl | rfl | rfl | rfl | rfl | rfl | rfl | rfl | rfl | rfl | rfl | rfl | rfl | rfl | rfl
  · exact sv1 G D
  · exact sv2 G D
  · exact sv3 G D
  · exact sv4 G D
  · exact sv5 G D
  · exact sv6 G D
  · exact sv7 G D
  · exact sv8 G D
  · exact sv9 G D
  · exact sv10 G D
  · exact sv11 G D
  · exact sv12 G D
  · exact sv13 G D
  · exact sv14 G D
  · exact sv15 G D
  · exact sv16 G D
  · exact sv17 G D
  · exact sv18 G D
  · exact sv19 G D
  · exact sv20 G D
  · exact sv21 G D
  · exact sv22 G D, ⟨fun sm h => by
  simp only [List.mem_cons, List.not_mem_nil, or_false] at h
  rcases h with rfl
  · exact sv0 G D, trivial⟩⟩
noncomputable def M23 : TT (SV × SP) := evFnD (cfgT F (fun _ => none) hpE T23) 2000 25 (patAs 0 [(true, [(.lit (.int .i64 (.lit 23))), (.lit (.str ⟨#[111, 114, 105]⟩)), (.lit (.int .i64 (.lit 2))), (.lit (.int .u32 (.lit 19))), (.lit (.int .u32 (.lit 6))), (.lit (.int .u32 (.lit 0))), (.lit (.int .i64 (.lit 1)))]), (false, [(.int .u32)])]) ⟨hpE, seedCs (kindsOf [(true, [(.lit (.int .i64 (.lit 23))), (.lit (.str ⟨#[111, 114, 105]⟩)), (.lit (.int .i64 (.lit 2))), (.lit (.int .u32 (.lit 19))), (.lit (.int .u32 (.lit 6))), (.lit (.int .u32 (.lit 0))), (.lit (.int .i64 (.lit 1)))]), (false, [(.int .u32)])]) [0]⟩
def spc23 : PC := seedCs (kindsOf [(true, [(.lit (.int .i64 (.lit 23))), (.lit (.str ⟨#[111, 114, 105]⟩)), (.lit (.int .i64 (.lit 2))), (.lit (.int .u32 (.lit 19))), (.lit (.int .u32 (.lit 6))), (.lit (.int .u32 (.lit 0))), (.lit (.int .i64 (.lit 1)))]), (false, [(.int .u32)])]) [0]
def r23_0c0 : RT := (.node (.cmp .eql (.bin .and .u32 (.var 0) (.lit 127)) (.lit 19)) (.leaf (.bool (.cmp .eql (.bin .and .u32 (.bin .shr .u32 (.var 0) (.lit 12)) (.lit 7)) (.lit 6))))
 (.leaf (.bool (.lit false))))
theorem r23_0k0 : r23_0c0.ok 0 M23 spc23 = true := by kernel_rfl
def sm23 : Sm := ⟨[(true, [(.lit (.int .i64 (.lit 23))), (.lit (.str ⟨#[111, 114, 105]⟩)), (.lit (.int .i64 (.lit 2))), (.lit (.int .u32 (.lit 19))), (.lit (.int .u32 (.lit 6))), (.lit (.int .u32 (.lit 0))), (.lit (.int .i64 (.lit 1)))]), (false, [(.int .u32)])], [0], false, r23_0c0⟩
theorem sv23 (G : Nat → Option Nat) (D : Hp) : SmValid Tryd.prog (GofSm G sm23) (DofSm D sm23) 25 sm23 := smValid0 (T := T23) (fuel := 2000) mixed hF (VT23 _ _) rfl r23_0k0
def T24 : List (Nat × List Sm) := [(25, [sm1, sm2, sm3, sm4, sm5, sm6, sm7, sm8, sm9, sm10, sm11, sm12, sm13, sm14, sm15, sm16, sm17, sm18, sm19, sm20, sm21, sm22, sm23]), (36, [sm0])]
theorem VT24 (G : Nat → Option Nat) (D : Hp) : AllV Tryd.prog G D T24 := ⟨fun sm h => by
  simp only [List.mem_cons, List.not_mem_nil, or_false] at h
  rcases h with rfl | rfl | rfl | rfl | rfl | rfl | rfl | rfl | rfl | rfl | rfl | rfl | rfl | rfl | rfl | rfl | rfl | rfl | rfl | rfl | rfl | rfl | rfl
  · exact sv1 G D
  · exact sv2 G D
  · exact sv3 G D
  · exact sv4 G D
  · exact sv5 G D
  · exact sv6 G D
  · exact sv7 G D
  · exact sv8 G D
  · exact sv9 G D
  · exact sv10 G D
  · exact sv11 G D
  · exact sv12 G D
  · exact sv13 G D
  · exact sv14 G D
  · exact sv15 G D
  · exact sv16 G D
  · exact sv17 G D
  · exact sv18 G D
  · exact sv19 G D
  · exact sv20 G D
  · exact sv21 G D
  · exact sv22 G D
  · exact sv23 G D, ⟨fun sm h => by
  simp only [List.mem_cons, List.not_mem_nil, or_false] at h
  rcases h with rfl
  · exact sv0 G D, trivial⟩⟩
noncomputable def M24 : TT (SV × SP) := evFnD (cfgT F (fun _ => none) hpE T24) 2000 25 (patAs 0 [(true, [(.lit (.int .i64 (.lit 24))), (.lit (.str ⟨#[97, 110, 100, 105]⟩)), (.lit (.int .i64 (.lit 2))), (.lit (.int .u32 (.lit 19))), (.lit (.int .u32 (.lit 7))), (.lit (.int .u32 (.lit 0))), (.lit (.int .i64 (.lit 1)))]), (false, [(.int .u32)])]) ⟨hpE, seedCs (kindsOf [(true, [(.lit (.int .i64 (.lit 24))), (.lit (.str ⟨#[97, 110, 100, 105]⟩)), (.lit (.int .i64 (.lit 2))), (.lit (.int .u32 (.lit 19))), (.lit (.int .u32 (.lit 7))), (.lit (.int .u32 (.lit 0))), (.lit (.int .i64 (.lit 1)))]), (false, [(.int .u32)])]) [0]⟩
def spc24 : PC := seedCs (kindsOf [(true, [(.lit (.int .i64 (.lit 24))), (.lit (.str ⟨#[97, 110, 100, 105]⟩)), (.lit (.int .i64 (.lit 2))), (.lit (.int .u32 (.lit 19))), (.lit (.int .u32 (.lit 7))), (.lit (.int .u32 (.lit 0))), (.lit (.int .i64 (.lit 1)))]), (false, [(.int .u32)])]) [0]
def r24_0c0 : RT := (.node (.cmp .eql (.bin .and .u32 (.var 0) (.lit 127)) (.lit 19)) (.leaf (.bool (.cmp .eql (.bin .and .u32 (.bin .shr .u32 (.var 0) (.lit 12)) (.lit 7)) (.lit 7))))
 (.leaf (.bool (.lit false))))
theorem r24_0k0 : r24_0c0.ok 0 M24 spc24 = true := by kernel_rfl
def sm24 : Sm := ⟨[(true, [(.lit (.int .i64 (.lit 24))), (.lit (.str ⟨#[97, 110, 100, 105]⟩)), (.lit (.int .i64 (.lit 2))), (.lit (.int .u32 (.lit 19))), (.lit (.int .u32 (.lit 7))), (.lit (.int .u32 (.lit 0))), (.lit (.int .i64 (.lit 1)))]), (false, [(.int .u32)])], [0], false, r24_0c0⟩
theorem sv24 (G : Nat → Option Nat) (D : Hp) : SmValid Tryd.prog (GofSm G sm24) (DofSm D sm24) 25 sm24 := smValid0 (T := T24) (fuel := 2000) mixed hF (VT24 _ _) rfl r24_0k0
def T25 : List (Nat × List Sm) := [(25, [sm1, sm2, sm3, sm4, sm5, sm6, sm7, sm8, sm9, sm10, sm11, sm12, sm13, sm14, sm15, sm16, sm17, sm18, sm19, sm20, sm21, sm22, sm23, sm24]), (36, [sm0])]
theorem VT25 (G : Nat → Option Nat) (D : Hp) : AllV Tryd.prog G D T25 := ⟨fun sm h => by
  simp only [List.mem_cons, List.not_mem_nil, or_false] at h
  rcases h with rfl | rfl | rfl | rfl | rfl | rfl | rfl | rfl | rfl | rfl | rfl | rfl | rfl | rfl | rfl | rfl | rfl | rfl | rfl | rfl | rfl | rfl | rfl | rfl
  · exact sv1 G D
  · exact sv2 G D
  · exact sv3 G D
  · exact sv4 G D
  · exact sv5 G D
  · exact sv6 G D
  · exact sv7 G D
  · exact sv8 G D
  · exact sv9 G D
  · exact sv10 G D
  · exact sv11 G D
  · exact sv12 G D
  · exact sv13 G D
  · exact sv14 G D
  · exact sv15 G D
  · exact sv16 G D
  · exact sv17 G D
  · exact sv18 G D
  · exact sv19 G D
  · exact sv20 G D
  · exact sv21 G D
  · exact sv22 G D
  · exact sv23 G D
  · exact sv24 G D, ⟨fun sm h => by
  simp only [List.mem_cons, List.not_mem_nil, or_false] at h
  rcases h with rfl
  · exact sv0 G D, trivial⟩⟩
noncomputable def M25 : TT (SV × SP) := evFnD (cfgT F (fun _ => none) hpE T25) 2000 25 (patAs 0 [(true, [(.lit (.int .i64 (.lit 25))), (.lit (.str ⟨#[115, 108, 108, 105]⟩)), (.lit (.int .i64 (.lit 5))), (.lit (.int .u32 (.lit 19))), (.lit (.int .u32 (.lit 1))), (.lit (.int .u32 (.lit 0))), (.lit (.int .i64 (.lit 1)))]), (false, [(.int .u32)])]) ⟨hpE, seedCs (kindsOf [(true, [(.lit (.int .i64 (.lit 25))), (.lit (.str ⟨#[115, 108, 108, 105]⟩)), (.lit (.int .i64 (.lit 5))), (.lit (.int .u32 (.lit 19))), (.lit (.int .u32 (.lit 1))), (.lit (.int .u32 (.lit 0))), (.lit (.int .i64 (.lit 1)))]), (false, [(.int .u32)])]) [0]⟩
def spc25 : PC := seedCs (kindsOf [(true, [(.lit (.int .i64 (.lit 25))), (.lit (.str ⟨#[115, 108, 108, 105]⟩)), (.lit (.int .i64 (.lit 5))), (.lit (.int .u32 (.lit 19))), (.lit (.int .u32 (.lit 1))), (.lit (.int .u32 (.lit 0))), (.lit (.int .i64 (.lit 1)))]), (false, [(.int .u32)])]) [0]
def r25_0c0 : RT := (.node (.cmp .eql (.bin .and .u32 (.var 0) (.lit 127)) (.lit 19)) (.node (.cmp .eql (.bin .and .u32 (.bin .shr .u32 (.var 0) (.lit 12)) (.lit 7)) (.lit 1)) (.leaf (.bool (.cmp .eql (.bin .and .u32 (.bin .shr .u32 (.var 0) (.lit 25)) (.lit 127)) (.lit 0))))
 (.leaf (.bool (.lit false))))
 (.leaf (.bool (.lit false))))
theorem r25_0k0 : r25_0c0.ok 0 M25 spc25 = true := by kernel_rfl
def sm25 : Sm := ⟨[(true, [(.lit (.int .i64 (.lit 25))), (.lit (.str ⟨#[115, 108, 108, 105]⟩)), (.lit (.int .i64 (.lit 5))), (.lit (.int .u32 (.lit 19))), (.lit (.int .u32 (.lit 1))), (.lit (.int .u32 (.lit 0))), (.lit (.int .i64 (.lit 1)))]), (false, [(.int .u32)])], [0], false, r25_0c0⟩
theorem sv25 (G : Nat → Option Nat) (D : Hp) : SmValid Tryd.prog (GofSm G sm25) (DofSm D sm25) 25 sm25 := smValid0 (T := T25) (fuel := 2000) mixed hF (VT25 _ _) rfl r25_0k0
def T26 : List (Nat × List Sm) := [(25, [sm1, sm2, sm3, sm4, sm5, sm6, sm7, sm8, sm9, sm10, sm11, sm12, sm13, sm14, sm15, sm16, sm17, sm18, sm19, sm20, sm21, sm22, sm23, sm24, sm25]), (36, [sm0])]
theorem VT26 (G : Nat → Option Nat) (D : Hp) : AllV Tryd.prog G D T26 := ⟨fun sm h => by
  simp only [List.mem_cons, List.not_mem_nil, or_false] at h
  rcases h with rfl | rfl | rfl | rfl | rfl | rfl | rfl | rfl | rfl | rfl | rfl | rfl | rfl | rfl | rfl | rfl | rfl | rfl | rfl | rfl | rfl | rfl | rfl | rfl | rfl
  · exact sv1 G D
  · exact sv2 G D
  · exact sv3 G D
  · exact sv4 G D
  · exact sv5 G D
  · exact sv6 G D
  · exact sv7 G D
  · exact sv8 G D
  · exact sv9 G D
  · exact sv10 G D
  · exact sv11 G D
  · exact sv12 G D
  · exact sv13 G D
  · exact sv14 G D
  · exact sv15 G D
  · exact sv16 G D
  · exact sv17 G D
  · exact sv18 G D
  · exact sv19 G D
  · exact sv20 G D
  · exact sv21 G D
  · exact sv22 G D
  · exact sv23 G D
  · exact sv24 G D
  · exact sv25 G D, ⟨fun sm h => by
  simp only [List.mem_cons, List.not_mem_nil, or_false] at h
  rcases h with rfl
  · exact sv0 G D, trivial⟩⟩
noncomputable def M26 : TT (SV × SP) := evFnD (cfgT F (fun _ => none) hpE T26) 2000 25 (patAs 0 [(true, [(.lit (.int .i64 (.lit 26))), (.lit (.str ⟨#[115, 114, 108, 105]⟩)), (.lit (.int .i64 (.lit 5))), (.lit (.int .u32 (.lit 19))), (.lit (.int .u32 (.lit 5))), (.lit (.int .u32 (.lit 0))), (.lit (.int .i64 (.lit 1)))]), (false, [(.int .u32)])]) ⟨hpE, seedCs (kindsOf [(true, [(.lit (.int .i64 (.lit 26))), (.lit (.str ⟨#[115, 114, 108, 105]⟩)), (.lit (.int .i64 (.lit 5))), (.lit (.int .u32 (.lit 19))), (.lit (.int .u32 (.lit 5))), (.lit (.int .u32 (.lit 0))), (.lit (.int .i64 (.lit 1)))]), (false, [(.int .u32)])]) [0]⟩
def spc26 : PC := seedCs (kindsOf [(true, [(.lit (.int .i64 (.lit 26))), (.lit (.str ⟨#[115, 114, 108, 105]⟩)), (.lit (.int .i64 (.lit 5))), (.lit (.int .u32 (.lit 19))), (.lit (.int .u32 (.lit 5))), (.lit (.int .u32 (.lit 0))), (.lit (.int .i64 (.lit 1)))]), (false, [(.int .u32)])]) [0]
def r26_0c0 : RT := (.node (.cmp .eql (.bin .and .u32 (.var 0) (.lit 127)) (.lit 19)) (.node (.cmp .eql (.bin .and .u32 (.bin .shr .u32 (.var 0) (.lit 12)) (.lit 7)) (.lit 5)) (.leaf (.bool (.cmp .eql (.bin .and .u32 (.bin .shr .u32 (.var 0) (.lit 25)) (.lit 127)) (.lit 0))))
 (.leaf (.bool (.lit false))))
 (.leaf (.bool (.lit false))))
theorem r26_0k0 : r26_0c0.ok 0 M26 spc26 = true := by kernel_rfl
def sm26 : Sm := ⟨[(true, [(.lit (.int .i64 (.lit 26))), (.lit (.str ⟨#[115, 114, 108, 105]⟩)), (.lit (.int .i64 (.lit 5))), (.lit (.int .u32 (.lit 19))), (.lit (.int .u32 (.lit 5))), (.lit (.int .u32 (.lit 0))), (.lit (.int .i64 (.lit 1)))]), (false, [(.int .u32)])], [0], false, r26_0c0⟩
theorem sv26 (G : Nat → Option Nat) (D : Hp) : SmValid Tryd.prog (GofSm G sm26) (DofSm D sm26) 25 sm26 := smValid0 (T := T26) (fuel := 2000) mixed hF (VT26 _ _) rfl r26_0k0
def T27 : List (Nat × List Sm) := [(25, [sm1, sm2, sm3, sm4, sm5, sm6, sm7, sm8, sm9, sm10, sm11, sm12, sm13, sm14, sm15, sm16, sm17, sm18, sm19, sm20, sm21, sm22, sm23, sm24, sm25, sm26]), (36, [sm0])]
theorem VT27 (G : Nat → Option Nat) (D : Hp) : AllV Tryd.prog G D T27 := ⟨fun sm h => by
  simp only [List.mem_cons, List.not_mem_nil, or_false] at h
  rcases h with rfl | rfl | rfl | rfl | rfl | rfl | rfl | rfl | rfl | rfl | rfl | rfl | rfl | rfl | rfl | rfl | rfl | rfl | rfl | rfl | rfl | rfl | rfl | rfl | rfl | rfl
  · exact sv1 G D
  · exact sv2 G D
  · exact sv3 G D
  · exact sv4 G D
  · exact sv5 G D
  · exact sv6 G D
  · exact sv7 G D
  · exact sv8 G D
  · exact sv9 G D
  · exact sv10 G D
  · exact sv11 G D
  · exact sv12 G D
  · exact sv13 G D
  · exact sv14 G D
  · exact sv15 G D
  · exact sv16 G D
  · exact sv17 G D
  · exact sv18 G D
  · exact sv19 G D
  · exact sv20 G D
  · exact sv21 G D
  · exact sv22 G D
  · exact sv23 G D
  · exact sv24 G D
  · exact sv25 G D
  · exact sv26 G D, ⟨fun sm h => by
  simp only [List.mem_cons, List.not_mem_nil, or_false] at h
  rcases h with rfl
  · exact sv0 G D, trivial⟩⟩
noncomputable def M27 : TT (SV × SP) := evFnD (cfgT F (fun _ => none) hpE T27) 2000 25 (patAs 0 [(true, [(.lit (.int .i64 (.lit 27))), (.lit (.str ⟨#[115, 114, 97, 105]⟩)), (.lit (.int .i64 (.lit 5))), (.lit (.int .u32 (.lit 19))), (.lit (.int .u32 (.lit 5))), (.lit (.int .u32 (.lit 32))), (.lit (.int .i64 (.lit 1)))]), (false, [(.int .u32)])]) ⟨hpE, seedCs (kindsOf [(true, [(.lit (.int .i64 (.lit 27))), (.lit (.str ⟨#[115, 114, 97, 105]⟩)), (.lit (.int .i64 (.lit 5))), (.lit (.int .u32 (.lit 19))), (.lit (.int .u32 (.lit 5))), (.lit (.int .u32 (.lit 32))), (.lit (.int .i64 (.lit 1)))]), (false, [(.int .u32)])]) [0]⟩
def spc27 : PC := seedCs (kindsOf [(true, [(.lit (.int .i64 (.lit 27))), (.lit (.str ⟨#[115, 114, 97, 105]⟩)), (.lit (.int .i64 (.lit 5))), (.lit (.int .u32 (.lit 19))), (.lit (.int .u32 (.lit 5))), (.lit (.int .u32 (.lit 32))), (.lit (.int .i64 (.lit 1)))]), (false, [(.int .u32)])]) [0]
def r27_0c0 : RT := (.node (.cmp .eql (.bin .and .u32 (.var 0) (.lit 127)) (.lit 19)) (.node (.cmp .eql (.bin .and .u32 (.bin .shr .u32 (.var 0) (.lit 12)) (.lit 7)) (.lit 5)) (.leaf (.bool (.cmp .eql (.bin .and .u32 (.bin .shr .u32 (.var 0) (.lit 25)) (.lit 127)) (.lit 32))))
 (.leaf (.bool (.lit false))))
 (.leaf (.bool (.lit false))))
theorem r27_0k0 : r27_0c0.ok 0 M27 spc27 = true := by kernel_rfl
def sm27 : Sm := ⟨[(true, [(.lit (.int .i64 (.lit 27))), (.lit (.str ⟨#[115, 114, 97, 105]⟩)), (.lit (.int .i64 (.lit 5))), (.lit (.int .u32 (.lit 19))), (.lit (.int .u32 (.lit 5))), (.lit (.int .u32 (.lit 32))), (.lit (.int .i64 (.lit 1)))]), (false, [(.int .u32)])], [0], false, r27_0c0⟩
theorem sv27 (G : Nat → Option Nat) (D : Hp) : SmValid Tryd.prog (GofSm G sm27) (DofSm D sm27) 25 sm27 := smValid0 (T := T27) (fuel := 2000) mixed hF (VT27 _ _) rfl r27_0k0
def T28 : List (Nat × List Sm) := [(25, [sm1, sm2, sm3, sm4, sm5, sm6, sm7, sm8, sm9, sm10, sm11, sm12, sm13, sm14, sm15, sm16, sm17, sm18, sm19, sm20, sm21, sm22, sm23, sm24, sm25, sm26, sm27]), (36, [sm0])]
theorem VT28 (G : Nat → Option Nat) (D : Hp) : AllV Tryd.prog G D T28 := ⟨fun sm h => by
  simp only [List.mem_cons, List.not_mem_nil, or_false] at h
  rcases h with rfl | rfl | rfl | rfl | rfl | rfl | rfl | rfl | rfl | rfl | rfl | rfl | rfl | rfl | rfl | rfl | rfl | rfl | rfl | rfl | rfl | rfl | rfl | rfl | rfl | rfl | rfl
  · exact sv1 G D
  · exact sv2 G D
  · exact sv3 G D
  · exact sv4 G D
  · exact sv5 G D
  · exact sv6 G D
  · exact sv7 G D
  · exact sv8 G D
  · exact sv9 G D
  · exact sv10 G D
  · exact sv11 G D
  · exact sv12 G D
  · exact sv13 G D
  · exact sv14 G D
  · exact sv15 G D
  · exact sv16 G D
  · exact sv17 G D
  · exact sv18 G D
  · exact sv19 G D
  · exact sv20 G D
  · exact sv21 G D
  · exact sv22 G D
  · exact sv23 G D
  · exact sv24 G D
  · exact sv25 G D
  · exact sv26 G D
  · exact sv27 G D, ⟨fun sm h => by
  simp only [List.mem_cons, List.not_mem_nil, or_false] at h
  rcases h with rfl
  · exact sv0 G D, trivial⟩⟩
noncomputable def M28 : TT (SV × SP) := evFnD (cfgT F (fun _ => none) hpE T28) 2000 25 (patAs 0 [(true, [(.lit (.int .i64 (.lit 28))), (.lit (.str ⟨#[97, 100, 100]⟩)), (.lit (.int .i64 (.lit 6))), (.lit (.int .u32 (.lit 51))), (.lit (.int .u32 (.lit 0))), (.lit (.int .u32 (.lit 0))), (.lit (.int .i64 (.lit 1)))]), (false, [(.int .u32)])]) ⟨hpE, seedCs (kindsOf [(true, [(.lit (.int .i64 (.lit 28))), (.lit (.str ⟨#[97, 100, 100]⟩)), (.lit (.int .i64 (.lit 6))), (.lit (.int .u32 (.lit 51))), (.lit (.int .u32 (.lit 0))), (.lit (.int .u32 (.lit 0))), (.lit (.int .i64 (.lit 1)))]), (false, [(.int .u32)])]) [0]⟩
def spc28 : PC := seedCs (kindsOf [(true, [(.lit (.int .i64 (.lit 28))), (.lit (.str ⟨#[97, 100, 100]⟩)), (.lit (.int .i64 (.lit 6))), (.lit (.int .u32 (.lit 51))), (.lit (.int .u32 (.lit 0))), (.lit (.int .u32 (.lit 0))), (.lit (.int .i64 (.lit 1)))]), (false, [(.int .u32)])]) [0]
def r28_0c0 : RT := (.node (.cmp .eql (.bin .and .u32 (.var 0) (.lit 127)) (.lit 51)) (.node (.cmp .eql (.bin .and .u32 (.bin .shr .u32 (.var 0) (.lit 12)) (.lit 7)) (.lit 0)) (.leaf (.bool (.cmp .eql (.bin .and .u32 (.bin .shr .u32 (.var 0) (.lit 25)) (.lit 127)) (.lit 0))))
 (.leaf (.bool (.lit false))))
 (.leaf (.bool (.lit false))))
theorem r28_0k0 : r28_0c0.ok 0 M28 spc28 = true := by kernel_rfl
def sm28 : Sm := ⟨[(true, [(.lit (.int .i64 (.lit 28))), (.lit (.str ⟨#[97, 100, 100]⟩)), (.lit (.int .i64 (.lit 6))), (.lit (.int .u32 (.lit 51))), (.lit (.int .u32 (.lit 0))), (.lit (.int .u32 (.lit 0))), (.lit (.int .i64 (.lit 1)))]), (false, [(.int .u32)])], [0], false, r28_0c0⟩
theorem sv28 (G : Nat → Option Nat) (D : Hp) : SmValid Tryd.prog (GofSm G sm28) (DofSm D sm28) 25 sm28 := smValid0 (T := T28) (fuel := 2000) mixed hF (VT28 _ _) rfl r28_0k0
def T29 : List (Nat × List Sm) := [(25, [sm1, sm2, sm3, sm4, sm5, sm6, sm7, sm8, sm9, sm10, sm11, sm12, sm13, sm14, sm15, sm16, sm17, sm18, sm19, sm20, sm21, sm22, sm23, sm24, sm25, sm26, sm27, sm28]), (36, [sm0])]
theorem VT29 (G : Nat → Option Nat) (D : Hp) : AllV Tryd.prog G D T29 := ⟨fun sm h => by
  simp only [List.mem_cons, List.not_mem_nil, or_false] at h
  rcases h with rfl | rfl | rfl | rfl | rfl | rfl | rfl | rfl | rfl | rfl | rfl | rfl | rfl | rfl | rfl | rfl | rfl | rfl | rfl | rfl | rfl | rfl | rfl | rfl | rfl | rfl | rfl | rfl
  · exact sv1 G D
  · exact sv2 G D
  · exact sv3 G D
  · exact sv4 G D
  · exact sv5 G D
  · exact sv6 G D
  · exact sv7 G D
  · exact sv8 G D
  · exact sv9 G D
  · exact sv10 G D
  · exact sv11 G D
  · exact sv12 G D
  · exact sv13 G D
  · exact sv14 G D
  · exact sv15 G D
  · exact sv16 G D
  · exact sv17 G D
  · exact sv18 G D
  · exact sv19 G D
  · exact sv20 G D
  · exact sv21 G D
  · exact sv22 G D
  · exact sv23 G D
  · exact sv24 G D
  · exact sv25 G D
  · exact sv26 G D
  · exact sv27 G D
  · exact sv28 G D, ⟨fun sm h => by
  simp only [List.mem_cons, List.not_mem_nil, or_false] at h
  rcases h with rfl
  · exact sv0 G D, trivial⟩⟩
noncomputable def M29 : TT (SV × SP) := evFnD (cfgT F (fun _ => none) hpE T29) 2000 25 (patAs 0 [(true, [(.lit (.int .i64 (.lit 29))), (.lit (.str ⟨#[115, 117, 98]⟩)), (.lit (.int .i64 (.lit 6))), (.lit (.int .u32 (.lit 51))), (.lit (.int .u32 (.lit 0))), (.lit (.int .u32 (.lit 32))), (.lit (.int .i64 (.lit 1)))]), (false, [(.int .u32)])]) ⟨hpE, seedCs (kindsOf [(true, [(.lit (.int .i64 (.lit 29))), (.lit (.str ⟨#[115, 117, 98]⟩)), (.lit (.int .i64 (.lit 6))), (.lit (.int .u32 (.lit 51))), (.lit (.int .u32 (.lit 0))), (.lit (.int .u32 (.lit 32))), (.lit (.int .i64 (.lit 1)))]), (false, [(.int .u32)])]) [0]⟩
def spc29 : PC := seedCs (kindsOf [(true, [(.lit (.int .i64 (.lit 29))), (.lit (.str ⟨#[115, 117, 98]⟩)), (.lit (.int .i64 (.lit 6))), (.lit (.int .u32 (.lit 51))), (.lit (.int .u32 (.lit 0))), (.lit (.int .u32 (.lit 32))), (.lit (.int .i64 (.lit 1)))]), (false, [(.int .u32)])]) [0]
def r29_0c0 : RT := (.node (.cmp .eql (.bin .and .u32 (.var 0) (.lit 127)) (.lit 51)) (.node (.cmp .eql (.bin .and .u32 (.bin .shr .u32 (.var 0) (.lit 12)) (.lit 7)) (.lit 0)) (.leaf (.bool (.cmp .eql (.bin .and .u32 (.bin .shr .u32 (.var 0) (.lit 25)) (.lit 127)) (.lit 32))))
 (.leaf (.bool (.lit false))))
 (.leaf (.bool (.lit false))))
theorem r29_0k0 : r29_0c0.ok 0 M29 spc29 = true := by kernel_rfl
def sm29 : Sm := ⟨[(true, [(.lit (.int .i64 (.lit 29))), (.lit (.str ⟨#[115, 117, 98]⟩)), (.lit (.int .i64 (.lit 6))), (.lit (.int .u32 (.lit 51))), (.lit (.int .u32 (.lit 0))), (.lit (.int .u32 (.lit 32))), (.lit (.int .i64 (.lit 1)))]), (false, [(.int .u32)])], [0], false, r29_0c0⟩
theorem sv29 (G : Nat → Option Nat) (D : Hp) : SmValid Tryd.prog (GofSm G sm29) (DofSm D sm29) 25 sm29 := smValid0 (T := T29) (fuel := 2000) mixed hF (VT29 _ _) rfl r29_0k0
def T30 : List (Nat × List Sm) := [(25, [sm1, sm2, sm3, sm4, sm5, sm6, sm7, sm8, sm9, sm10, sm11, sm12, sm13, sm14, sm15, sm16, sm17, sm18, sm19, sm20, sm21, sm22, sm23, sm24, sm25, sm26, sm27, sm28, sm29]), (36, [sm0])]
theorem VT30 (G : Nat → Option Nat) (D : Hp) : AllV Tryd.prog G D T30 := ⟨fun sm h => by
  simp only [List.mem_cons, List.not_mem_nil, or_false] at h
  rcases h with rfl | rfl | rfl | rfl | rfl | rfl | rfl | rfl | rfl | rfl | rfl | rfl | rfl | rfl | rfl | rfl | rfl | rfl | rfl | rfl | rfl | rfl | rfl | rfl | rfl | rfl | rfl | rfl | rfl
  · exact sv1 G D
  · exact sv2 G D
  · exact sv3 G D
  · exact sv4 G D
  · exact sv5 G D
  · exact sv6 G D
  · exact sv7 G D
  · exact sv8 G D
  · exact sv9 G D
  · exact sv10 G D
  · exact sv11 G D
  · exact sv12 G D
  · exact sv13 G D
  · exact sv14 G D
  · exact sv15 G D
  · exact sv16 G D
  · exact sv17 G D
  · exact sv18 G D
  · exact sv19 G D
  · exact sv20 G D
  · exact sv21 G D
  · exact sv22 G D
  · exact sv23 G D
  · exact sv24 G D
  · exact sv25 G D
  · exact sv26 G D
  · exact sv27 G D
  · exact sv28 G D
  · exact sv29 G D, ⟨fun sm h => by
  simp only [List.mem_cons, List.not_mem_nil, or_false] at h
  rcases h with rfl
  · exact sv0 G D, trivial⟩⟩
noncomputable def M30 : TT (SV × SP) := evFnD (cfgT F (fun _ => none) hpE T30) 2000 25 (patAs 0 [(true, [(.lit (.int .i64 (.lit 30))), (.lit (.str ⟨#[115, 108, 108]⟩)), (.lit (.int .i64 (.lit 6))), (.lit (.int .u32 (.lit 51))), (.lit (.int .u32 (.lit 1))), (.lit (.int .u32 (.lit 0))), (.lit (.int .i64 (.lit 1)))]), (false, [(.int .u32)])]) ⟨hpE, seedCs (kindsOf [(true, [(.lit (.int .i64 (.lit 30))), (.lit (.str ⟨#[115, 108, 108]⟩)), (.lit (.int .i64 (.lit 6))), (.lit (.int .u32 (.lit 51))), (.lit (.int .u32 (.lit 1))), (.lit (.int .u32 (.lit 0))), (.lit (.int .i64 (.lit 1)))]), (false, [(.int .u32)])]) [0]⟩
def spc30 : PC := seedCs (kindsOf [(true, [(.lit (.int .i64 (.lit 30))), (.lit (.str ⟨#[115, 108, 108]⟩)), (.lit (.int .i64 (.lit 6))), (.lit (.int .u32 (.lit 51))), (.lit (.int .u32 (.lit 1))), (.lit (.int .u32 (.lit 0))), (.lit (.int .i64 (.lit 1)))]), (false, [(.int .u32)])]) [0]
def r30_0c0 : RT := (.node (.cmp .eql (.bin .and .u32 (.var 0) (.lit 127)) (.lit 51)) (.node (.cmp .eql (.bin .and .u32 (.bin .shr .u32 (.var 0) (.lit 12)) (.lit 7)) (.lit 1)) (.leaf (.bool (.cmp .eql (.bin .and .u32 (.bin .shr .u32 (.var 0) (.lit 25)) (.lit 127)) (.lit 0))))
 (.leaf (.bool (.lit false))))
 (.leaf (.bool (.lit false))))
theorem r30_0k0 : r30_0c0.ok 0 M30 spc30 = true := by kernel_rfl
def sm30 : Sm := ⟨[(true, [(.lit (.int .i64 (.lit 30))), (.lit (.str ⟨#[115, 108, 108]⟩)), (.lit (.int .i64 (.lit 6))), (.lit (.int .u32 (.lit 51))), (.lit (.int .u32 (.lit 1))), (.lit (.int .u32 (.lit 0))), (.lit (.int .i64 (.lit 1)))]), (false, [(.int .u32)])], [0], false, r30_0c0⟩
theorem sv30 (G : Nat → Option Nat) (D : Hp) : SmValid Tryd.prog (GofSm G sm30) (DofSm D sm30) 25 sm30 := smValid0 (T := T30) (fuel := 2000) mixed hF (VT30 _ _) rfl r30_0k0
def T31 : List (Nat × List Sm) := [(25, [sm1, sm2, sm3, sm4, sm5, sm6, sm7, sm8, sm9, sm10, sm11, sm12, sm13, sm14, sm15, sm16, sm17, sm18, sm19, sm20, sm21, sm22, sm23, sm24, sm25, sm26, sm27, sm28, sm29, sm30]), (36, [sm0])]
theorem VT31 (G : Nat → Option Nat) (D : Hp) : AllV Tryd.prog G D T31 := ⟨fun sm h => by
  simp only [List.mem_cons, List.not_mem_nil, or_false] at h
  rcases h with rfl | rfl | rfl | rfl | rfl | rfl | rfl | rfl | rfl | rfl | rfl | rfl | rfl | rfl | rfl | rfl | rfl | rfl | rfl | rfl | rfl | rfl | rfl | rfl | rfl | rfl | rfl | rfl | rfl | rfl
  · exact sv1 G D
  · exact sv2 G D
  · exact sv3 G D
  · exact sv4 G D
  · exact sv5 G D
  · exact sv6 G D
  · exact sv7 G D
  · exact sv8 G D
  · exact sv9 G D
  · exact sv10 G D
  · exact sv11 G D
  · exact sv12 G D
  · exact sv13 G D
  · exact sv14 G D
  · exact sv15 G D
  · exact sv16 G D
  · exact sv17 G D
  · exact sv18 G D
  · exact sv19 G D
  · exact sv20 G D
  · exact sv21 G D
  · exact sv22 G D
  · exact sv23 G D
  · exact sv24 G D
  · exact sv25 G D
  · exact sv26 G D
  · exact sv27 G D
  · exact sv28 G D
  · exact sv29 G D
  · exact sv30 G D, ⟨fun sm h => by
  simp only [List.mem_cons, List.not_mem_nil, or_false] at h
  rcases h with rfl
  · exact sv0 G D, trivial⟩⟩
noncomputable def M31 : TT (SV × SP) := evFnD (cfgT F (fun _ => none) hpE T31) 2000 25 (patAs 0 [(true, [(.lit (.int .i64 (.lit 31))), (.lit (.str ⟨#[115, 108, 116]⟩)), (.lit (.int .i64 (.lit 6))), (.lit (.int .u32 (.lit 51))), (.lit (.int .u32 (.lit 2))), (.lit (.int .u32 (.lit 0))), (.lit (.int .i64 (.lit 1)))]), (false, [(.int .u32)])]) ⟨hpE, seedCs (kindsOf [(true, [(.lit (.int .i64 (.lit 31))), (.lit (.str ⟨#[115, 108, 116]⟩)), (.lit (.int .i64 (.lit 6))), (.lit (.int .u32 (.lit 51))), (.lit (.int .u32 (.lit 2))), (.lit (.int .u32 (.lit 0))), (.lit (.int .i64 (.lit 1)))]), (false, [(.int .u32)])]) [0]⟩
def spc31 : PC := seedCs (kindsOf [(true, [(.lit (.int .i64 (.lit 31))), (.lit (.str ⟨#[115, 108, 116]⟩)), (.lit (.int .i64 (.lit 6))), (.lit (.int .u32 (.lit 51))), (.lit (.int .u32 (.lit 2))), (.lit (.int .u32 (.lit 0))), (.lit (.int .i64 (.lit 1)))]), (false, [(.int .u32)])]) [0]
def r31_0c0 : RT := (.node (.cmp .eql (.bin .and .u32 (.var 0) (.lit 127)) (.lit 51)) (.node (.cmp .eql (.bin .and .u32 (.bin .shr .u32 (.var 0) (.lit 12)) (.lit 7)) (.lit 2)) (.leaf (.bool (.cmp .eql (.bin .and .u32 (.bin .shr .u32 (.var 0) (.lit 25)) (.lit 127)) (.lit 0))))
 (.leaf (.bool (.lit false))))
 (.leaf (.bool (.lit false))))
theorem r31_0k0 : r31_0c0.ok 0 M31 spc31 = true := by kernel_rfl
def sm31 : Sm := ⟨[(true, [(.lit (.int .i64 (.lit 31))), (.lit (.str ⟨#[115, 108, 116]⟩)), (.lit (.int .i64 (.lit 6))), (.lit (.int .u32 (.lit 51))), (.lit (.int .u32 (.lit 2))), (.lit (.int .u32 (.lit 0))), (.lit (.int .i64 (.lit 1)))]), (false, [(.int .u32)])], [0], false, r31_0c0⟩
theorem sv31 (G : Nat → Option Nat) (D : Hp) : SmValid Tryd.prog (GofSm G sm31) (DofSm D sm31) 25 sm31 := smValid0 (T := T31) (fuel := 2000) mixed hF (VT31 _ _) rfl r31_0k0
def T32 : List (Nat × List Sm) := [(25, [sm1, sm2, sm3, sm4, sm5, sm6, sm7, sm8, sm9, sm10, sm11, sm12, sm13, sm14, sm15, sm16, sm17, sm18, sm19, sm20, sm21, sm22, sm23, sm24, sm25, sm26, sm27, sm28, sm29, sm30, sm31]), (36, [sm0])]
theorem VT32 (G : Nat → Option Nat) (D : Hp) : AllV Tryd.prog G D T32 := ⟨fun sm h => by
  simp only [List.mem_cons, List.not_mem_nil, or_false] at h
  rcases h with rfl | rfl | rfl | rfl | rfl | rfl | rfl | rfl | rfl | rfl | rfl | rfl | rfl | rfl | rfl | rfl | rfl | rfl | rfl | rfl | rfl | rfl | rfl | rfl | rfl | rfl | rfl | rfl | rfl | rfl | rfl
  · exact sv1 G D
  · exact sv2 G D
  · exact sv3 G D
  · exact sv4 G D
  · exact sv5 G D
  · exact sv6 G D
  · exact sv7 G D
  · exact sv8 G D
  · exact sv9 G D
  · exact sv10 G D
  · exact sv11 G D
  · exact sv12 G D
  · exact sv13 G D
  · exact sv14 G D
  · exact sv15 G D
  · exact sv16 G D
  · exact sv17 G D
  · exact sv18 G D
  · exact sv19 G D
  · exact sv20 G D
  · exact sv21 G D
  · exact sv22 G D
  · exact sv23 G D
  · exact sv24 G D
  · exact sv25 G D
  · exact sv26 G D
  · exact sv27 G D
  · exact sv28 G D
  · exact sv29 G D
  · exact sv30 G D
  · exact sv31 G D, ⟨fun sm h => by
  simp only [List.mem_cons, List.not_mem_nil, or_false] at h
  rcases h with rfl
  · exact sv0 G D, trivial⟩⟩
noncomputable def M32 : TT (SV × SP) := evFnD (cfgT F (fun _ => none) hpE T32) 2000 25 (patAs 0 [(true, [(.lit (.int .i64 (.lit 32))), (.lit (.str ⟨#[115, 108, 116, 117]⟩)), (.lit (.int .i64 (.lit 6))), (.lit (.int .u32 (.lit 51))), (.lit (.int .u32 (.lit 3))), (.lit (.int .u32 (.lit 0))), (.lit (.int .i64 (.lit 1)))]), (false, [(.int .u32)])]) ⟨hpE, seedCs (kindsOf [(true, [(.lit (.int .i64 (.lit 32))), (.lit (.str ⟨#[115, 108, 116, 117]⟩)), (.lit (.int .i64 (.lit 6))), (.lit (.int .u32 (.lit 51))), (.lit (.int .u32 (.lit 3))), (.lit (.int .u32 (.lit 0))), (.lit (.int .i64 (.lit 1)))]), (false, [(.int .u32)])]) [0]⟩
def spc32 : PC := seedCs (kindsOf [(true, [(.lit (.int .i64 (.lit 32))), (.lit (.str ⟨#[115, 108, 116, 117]⟩)), (.lit (.int .i64 (.lit 6))), (.lit (.int .u32 (.lit 51))), (.lit (.int .u32 (.lit 3))), (.lit (.int .u32 (.lit 0))), (.lit (.int .i64 (.lit 1)))]), (false, [(.int .u32)])]) [0]
def r32_0c0 : RT := (.node (.cmp .eql (.bin .and .u32 (.var 0) (.lit 127)) (.lit 51)) (.node (.cmp .eql (.bin .and .u32 (.bin .shr .u32 (.var 0) (.lit 12)) (.lit 7)) (.lit 3)) (.leaf (.bool (.cmp .eql (.bin .and .u32 (.bin .shr .u32 (.var 0) (.lit 25)) (.lit 127)) (.lit 0))))
 (.leaf (.bool (.lit false))))
 (.leaf (.bool (.lit false))))
theorem r32_0k0 : r32_0c0.ok 0 M32 spc32 = true := by kernel_rfl
def sm32 : Sm := ⟨[(true, [(.lit (.int .i64 (.lit 32))), (.lit (.str ⟨#[115, 108, 116, 117]⟩)), (.lit (.int .i64 (.lit 6))), (.lit (.int .u32 (.lit 51))), (.lit (.int .u32 (.lit 3))), (.lit (.int .u32 (.lit 0))), (.lit (.int .i64 (.lit 1)))]), (false, [(.int .u32)])], [0], false, r32_0c0⟩
theorem sv32 (G : Nat → Option Nat) (D : Hp) : SmValid Tryd.prog (GofSm G sm32) (DofSm D sm32) 25 sm32 := smValid0 (T := T32) (fuel := 2000) mixed hF (VT32 _ _) rfl r32_0k0
def T33 : List (Nat × List Sm) := [(25, [sm1, sm2, sm3, sm4, sm5, sm6, sm7, sm8, sm9, sm10, sm11, sm12, sm13, sm14, sm15, sm16, sm17, sm18, sm19, sm20, sm21, sm22, sm23, sm24, sm25, sm26, sm27, sm28, sm29, sm30, sm31, sm32]), (36, [sm0])]
theorem VT33 (G : Nat → Option Nat) (D : Hp) : AllV Tryd.prog G D T33 := ⟨fun sm h => by
  simp only [List.mem_cons, List.not_mem_nil, or_false] at h
  rcases h with rfl | rfl | rfl | rfl | rfl | rfl | rfl | rfl | rfl | rfl | rfl | rfl | rfl | rfl | rfl | rfl | rfl | rfl | rfl | rfl | rfl | rfl | rfl | rfl | rfl | rfl | rfl | rfl | rfl | rfl | rfl | rfl
  · exact sv1 G D
  · exact sv2 G D
  · exact sv3 G D
  · exact sv4 G D
  · exact sv5 G D
  · exact sv6 G D
  · exact sv7 G D
  · exact sv8 G D
  · exact sv9 G D
  · exact sv10 G D
  · exact sv11 G D
  · exact sv12 G D
  · exact sv13 G D
  · exact sv14 G D
  · exact sv15 G D
  · exact sv16 G D
  · exact sv17 G D
  · exact sv18 G D
  · exact sv19 G D
  · exact sv20 G D
  · exact sv21 G D
  · exact sv22 G D
  · exact sv23 G D
  · exact sv24 G D
  · exact sv25 G D
  · exact sv26 G D
  · exact sv27 G D
  · exact sv28 G D
  · exact sv29 G D
  · exact sv30 G D
  · exact sv31 G D
  · exact sv32 G D, ⟨fun sm h => by
  simp only [List.mem_cons, List.not_mem_nil, or_false] at h
  rcases h with rfl
  · exact sv0 G D, trivial⟩⟩
noncomputable def M33 : TT (SV × SP) := evFnD (cfgT F (fun _ => none) hpE T33) 2000 25 (patAs 0 [(true, [(.lit (.int .i64 (.lit 33))), (.lit (.str ⟨#[120, 111, 114]⟩)), (.lit (.int .i64 (.lit 6))), (.lit (.int .u32 (.lit 51))), (.lit (.int .u32 (.lit 4))), (.lit (.int .u32 (.lit 0))), (.lit (.int .i64 (.lit 1)))]), (false, [(.int .u32)])]) ⟨hpE, seedCs (kindsOf [(true, [(.lit (.int .i64 (.lit 33))), (.lit (.str ⟨#[120, 111, 114]⟩)), (.lit (.int .i64 (.lit 6))), (.lit (.int .u32 (.lit 51))), (.lit (.int .u32 (.lit 4))), (.lit (.int .u32 (.lit 0))), (.lit (.int .i64 (.lit 1)))]), (false, [(.int .u32)])]) [0]⟩
def spc33 : PC := seedCs (kindsOf [(true, [(.lit (.int .i64 (.lit 33))), (.lit (.str ⟨#[120, 111, 114]⟩)), (.lit (.int .i64 (.lit 6))), (.lit (.int .u32 (.lit 51))), (.lit (.int .u32 (.lit 4))), (.lit (.int .u32 (.lit 0))), (.lit (.int .i64 (.lit 1)))]), (false, [(.int .u32)])]) [0]
def r33_0c0 : RT := (.node (.cmp .eql (.bin .and .u32 (.var 0) (.lit 127)) (.lit 51)) (.node (.cmp .eql (.bin .and .u32 (.bin .shr .u32 (.var 0) (.lit 12)) (.lit 7)) (.lit 4)) (.leaf (.bool (.cmp .eql (.bin .and .u32 (.bin .shr .u32 (.var 0) (.lit 25)) (.lit 127)) (.lit 0))))
 (.leaf (.bool (.lit false))))
 (.leaf (.bool (.lit false))))
theorem r33_0k0 : r33_0c0.ok 0 M33 spc33 = true := by kernel_rfl
def sm33 : Sm := ⟨[(true, [(.lit (.int .i64 (.lit 33))), (.lit (.str ⟨#[120, 111, 114]⟩)), (.lit (.int .i64 (.lit 6))), (.lit (.int .u32 (.lit 51))), (.lit (.int .u32 (.lit 4))), (.lit (.int .u32 (.lit 0))), (.lit (.int .i64 (.lit 1)))]), (false, [(.int .u32)])], [0], false, r33_0c0⟩
theorem sv33 (G : Nat → Option Nat) (D : Hp) : SmValid Tryd.prog (GofSm G sm33) (DofSm D sm33) 25 sm33 := smValid0 (T := T33) (fuel := 2000) mixed hF (VT33 _ _) rfl r33_0k0
def T34 : List (Nat × List Sm) := [(25, [sm1, sm2, sm3, sm4, sm5, sm6, sm7, sm8, sm9, sm10, sm11, sm12, sm13, sm14, sm15, sm16, sm17, sm18, sm19, sm20, sm21, sm22, sm23, sm24, sm25, sm26, sm27, sm28, sm29, sm30, sm31, sm32, sm33]), (36, [sm0])]
theorem VT34 (G : Nat → Option Nat) (D : Hp) : AllV Tryd.prog G D T34 := ⟨fun sm h => by
  simp only [List.mem_cons, List.not_mem_nil, or_false] at h
  rcases h with rfl | rfl | rfl | rfl | rfl | rfl | rfl | rfl | rfl | rfl | rfl | rfl | rfl | rfl | rfl | rfl | rfl | rfl | rfl | rfl | rfl | rfl | rfl | rfl | rfl | rfl | rfl | rfl | rfl | rfl | rfl | rfl | rfl
  · exact sv1 G D
  · exact sv2 G D
  · exact sv3 G D
  · exact sv4 G D
  · exact sv5 G D
  · exact sv6 G D
  · exact sv7 G D
  · exact sv8 G D
  · exact sv9 G D
  · exact sv10 G D
  · exact sv11 G D
  · exact sv12 G D
  · exact sv13 G D
  · exact sv14 G D
  · exact sv15 G D
  · exact sv16 G D
  · exact sv17 G D
  · exact sv18 G D
  · exact sv19 G D
  · exact sv20 G D
  · exact sv21 G D
  · exact sv22 G D
  · exact sv23 G D
  · exact sv24 G D
  · exact sv25 G D
  · exact sv26 G D
  · exact sv27 G D
  · exact sv28 G D
  · exact sv29 G D
  · exact sv30 G D
  · exact sv31 G D
  · exact sv32 G D
  · exact sv33 G D, ⟨fun sm h => by
  simp only [List.mem_cons, List.not_mem_nil, or_false] at h
  rcases h with rfl
  · exact sv0 G D, trivial⟩⟩
noncomputable def M34 : TT (SV × SP) := evFnD (cfgT F (fun _ => none) hpE T34) 2000 25 (patAs 0 [(true, [(.lit (.int .i64 (.lit 34))), (.lit (.str ⟨#[115, 114, 108]⟩)), (.lit (.int .i64 (.lit 6))), (.lit (.int .u32 (.lit 51))), (.lit (.int .u32 (.lit 5))), (.lit (.int .u32 (.lit 0))), (.lit (.int .i64 (.lit 1)))]), (false, [(.int .u32)])]) ⟨hpE, seedCs (kindsOf [(true, [(.lit (.int .i64 (.lit 34))), (.lit (.str ⟨#[115, 114, 108]⟩)), (.lit (.int .i64 (.lit 6))), (.lit (.int .u32 (.lit 51))), (.lit (.int .u32 (.lit 5))), (.lit (.int .u32 (.lit 0))), (.lit (.int .i64 (.lit 1)))]), (false, [(.int .u32)])]) [0]⟩
def spc34 : PC := seedCs (kindsOf [(true, [(.lit (.int .i64 (.lit 34))), (.lit (.str ⟨#[115, 114, 108]⟩)), (.lit (.int .i64 (.lit 6))), (.lit (.int .u32 (.lit 51))), (.lit (.int .u32 (.lit 5))), (.lit (.int .u32 (.lit 0))), (.lit (.int .i64 (.lit 1)))]), (false, [(.int .u32)])]) [0]
def r34_0c0 : RT := (.node (.cmp .eql (.bin .and .u32 (.var 0) (.lit 127)) (.lit 51)) (.node (.cmp .eql (.bin .and .u32 (.bin .shr .u32 (.var 0) (.lit 12)) (.lit 7)) (.lit 5)) (.leaf (.bool (.cmp .eql (.bin .and .u32 (.bin .shr .u32 (.var 0) (.lit 25)) (.lit 127)) (.lit 0))))
 (.leaf (.bool (.lit false))))
 (.leaf (.bool (.lit false))))
theorem r34_0k0 : r34_0c0.ok 0 M34 spc34 = true := by kernel_rfl
def sm34 : Sm := ⟨[(true, [(.lit (.int .i64 (.lit 34))), (.lit (.str ⟨#[115, 114, 108]⟩)), (.lit (.int .i64 (.lit 6))), (.lit (.int .u32 (.lit 51))), (.lit (.int .u32 (.lit 5))), (.lit (.int .u32 (.lit 0))), (.lit (.int .i64 (.lit 1)))]), (false, [(.int .u32)])], [0], false, r34_0c0⟩
theorem sv34 (G : Nat → Option Nat) (D : Hp) : SmValid Tryd.prog (GofSm G sm34) (DofSm D sm34) 25 sm34 := smValid0 (T := T34) (fuel := 2000) mixed hF (VT34 _ _) rfl r34_0k0
def T35 : List (Nat × List Sm) := [(25, [sm1, sm2, sm3, sm4, sm5, sm6, sm7, sm8, sm9, sm10, sm11, sm12, sm13, sm14, sm15, sm16, sm17, sm18, sm19, sm20, sm21, sm22, sm23, sm24, sm25, sm26, sm27, sm28, sm29, sm30, sm31, sm32, sm33, sm34]), (36, [sm0])]
theorem VT35 (G : Nat → Option Nat) (D : Hp) : AllV Tryd.prog G D T35 := ⟨fun sm h => by
  simp only [List.mem_cons, List.not_mem_nil, or_false] at h
  rcases h with rfl | rfl | rfl | rfl | rfl | rfl | rfl | rfl | rfl | rfl | rfl | rfl | rfl | rfl | rfl | rfl | rfl | rfl | rfl | rfl | rfl | rfl | rfl | rfl | rfl | rfl | rfl | rfl | rfl | rfl | rfl | rfl | rfl | rfl
  · exact sv1 G D
  · exact sv2 G D
  · exact sv3 G D
  · exact sv4 G D
  · exact sv5 G D
  · exact sv6 G D
  · exact sv7 G D
  · exact sv8 G D
  · exact sv9 G D
  · exact sv10 G D
  · exact sv11 G D
  · exact sv12 G D
  · exact sv13 G D
  · exact sv14 G D
  · exact sv15 G D
  · exact sv16 G D
  · exact sv17 G D
  · exact sv18 G D
  · exact sv19 G D
  · exact sv20 G D
  · exact sv21 G D
  · exact sv22 G D
  · exact sv23 G D
  · exact sv24 G D
  · exact sv25 G D
  · exact sv26 G D
  · exact sv27 G D
  · exact sv28 G D
  · exact sv29 G D
  · exact sv30 G D
  · exact sv31 G D
  · exact sv32 G D
  · exact sv33 G D
  · exact sv34 G D, ⟨fun sm h => by
  simp only [List.mem_cons, List.not_mem_nil, or_false] at h
  rcases h with rfl
  · exact sv0 G D, trivial⟩⟩
noncomputable def M35 : TT (SV × SP) := evFnD (cfgT F (fun _ => none) hpE T35) 2000 25 (patAs 0 [(true, [(.lit (.int .i64 (.lit 35))), (.lit (.str ⟨#[115, 114, 97]⟩)), (.lit (.int .i64 (.lit 6))), (.lit (.int .u32 (.lit 51))), (.lit (.int .u32 (.lit 5))), (.lit (.int .u32 (.lit 32))), (.lit (.int .i64 (.lit 1)))]), (false, [(.int .u32)])]) ⟨hpE, seedCs (kindsOf [(true, [(.lit (.int .i64 (.lit 35))), (.lit (.str ⟨#[115, 114, 97]⟩)), (.lit (.int .i64 (.lit 6))), (.lit (.int .u32 (.lit 51))), (.lit (.int .u32 (.lit 5))), (.lit (.int .u32 (.lit 32))), (.lit (.int .i64 (.lit 1)))]), (false, [(.int .u32)])]) [0]⟩
def spc35 : PC := seedCs (kindsOf [(true, [(.lit (.int .i64 (.lit 35))), (.lit (.str ⟨#[115, 114, 97]⟩)), (.lit (.int .i64 (.lit 6))), (.lit (.int .u32 (.lit 51))), (.lit (.int .u32 (.lit 5))), (.lit (.int .u32 (.lit 32))), (.lit (.int .i64 (.lit 1)))]), (false, [(.int .u32)])]) [0]
def r35_0c0 : RT := (.node (.cmp .eql (.bin .and .u32 (.var 0) (.lit 127)) (.lit 51)) (.node (.cmp .eql (.bin .and .u32 (.bin .shr .u32 (.var 0) (.lit 12)) (.lit 7)) (.lit 5)) (.leaf (.bool (.cmp .eql (.bin .and .u32 (.bin .shr .u32 (.var 0) (.lit 25)) (.lit 127)) (.lit 32))))
 (.leaf (.bool (.lit false))))
 (.leaf (.bool (.lit false))))
theorem r35_0k0 : r35_0c0.ok 0 M35 spc35 = true := by kernel_rfl
def sm35 : Sm := ⟨[(true, [(.lit (.int .i64 (.lit 35))), (.lit (.str ⟨#[115, 114, 97]⟩)), (.lit (.int .i64 (.lit 6))), (.lit (.int .u32 (.lit 51))), (.lit (.int .u32 (.lit 5))), (.lit (.int .u32 (.lit 32))), (.lit (.int .i64 (.lit 1)))]), (false, [(.int .u32)])], [0], false, r35_0c0⟩
theorem sv35 (G : Nat → Option Nat) (D : Hp) : SmValid Tryd.prog (GofSm G sm35) (DofSm D sm35) 25 sm35 := smValid0 (T := T35) (fuel := 2000) mixed hF (VT35 _ _) rfl r35_0k0
def T36 : List (Nat × List Sm) := [(25, [sm1, sm2, sm3, sm4, sm5, sm6, sm7, sm8, sm9, sm10, sm11, sm12, sm13, sm14, sm15, sm16, sm17, sm18, sm19, sm20, sm21, sm22, sm23, sm24, sm25, sm26, sm27, sm28, sm29, sm30, sm31, sm32, sm33, sm34, sm35]), (36, [sm0])]
theorem VT36 (G : Nat → Option Nat) (D : Hp) : AllV Tryd.prog G D T36 := ⟨fun sm h => by
  simp only [List.mem_cons, List.not_mem_nil, or_false] at h
  rcases h with rfl | rfl | rfl | rfl | rfl | rfl | rfl | rfl | rfl | rfl | rfl | rfl | rfl | rfl | rfl | rfl | rfl | rfl | rfl | rfl | rfl | rfl | rfl | rfl | rfl | rfl | rfl | rfl | rfl | rfl | rfl | rfl | rfl | rfl | rfl
  · exact sv1 G D
  · exact sv2 G D
  · exact sv3 G D
  · exact sv4 G D
  · exact sv5 G D
  · exact sv6 G D
  · exact sv7 G D
  · exact sv8 G D
  · exact sv9 G D
  · exact sv10 G D
  · exact sv11 G D
  · exact sv12 G D
  · exact sv13 G D
  · exact sv14 G D
  · exact sv15 G D
  · exact sv16 G D
  · exact sv17 G D
  · exact sv18 G D
  · exact sv19 G D
  · exact sv20 G D
  · exact sv21 G D
  · exact sv22 G D
  · exact sv23 G D
  · exact sv24 G D
  · exact sv25 G D
  · exact sv26 G D
  · exact sv27 G D
  · exact sv28 G D
  · exact sv29 G D
  · exact sv30 G D
  · exact sv31 G D
  · exact sv32 G D
  · exact sv33 G D
  · exact sv34 G D
  · exact sv35 G D, ⟨fun sm h => by
  simp only [List.mem_cons, List.not_mem_nil, or_false] at h
  rcases h with rfl
  · exact sv0 G D, trivial⟩⟩
noncomputable def M36 : TT (SV × SP) := evFnD (cfgT F (fun _ => none) hpE T36) 2000 25 (patAs 0 [(true, [(.lit (.int .i64 (.lit 36))), (.lit (.str ⟨#[111, 114]⟩)), (.lit (.int .i64 (.lit 6))), (.lit (.int .u32 (.lit 51))), (.lit (.int .u32 (.lit 6))), (.lit (.int .u32 (.lit 0))), (.lit (.int .i64 (.lit 1)))]), (false, [(.int .u32)])]) ⟨hpE, seedCs (kindsOf [(true, [(.lit (.int .i64 (.lit 36))), (.lit (.str ⟨#[111, 114]⟩)), (.lit (.int .i64 (.lit 6))), (.lit (.int .u32 (.lit 51))), (.lit (.int .u32 (.lit 6))), (.lit (.int .u32 (.lit 0))), (.lit (.int .i64 (.lit 1)))]), (false, [(.int .u32)])]) [0]⟩
def spc36 : PC := seedCs (kindsOf [(true, [(.lit (.int .i64 (.lit 36))), (.lit (.str ⟨#[111, 114]⟩)), (.lit (.int .i64 (.lit 6))), (.lit (.int .u32 (.lit 51))), (.lit (.int .u32 (.lit 6))), (.lit (.int .u32 (.lit 0))), (.lit (.int .i64 (.lit 1)))]), (false, [(.int .u32)])]) [0]
def r36_0c0 : RT := (.node (.cmp .eql (.bin .and .u32 (.var 0) (.lit 127)) (.lit 51)) (.node (.cmp .eql (.bin .and .u32 (.bin .shr .u32 (.var 0) (.lit 12)) (.lit 7)) (.lit 6)) (.leaf (.bool (.cmp .eql (.bin .and .u32 (.bin .shr .u32 (.var 0) (.lit 25)) (.lit 127)) (.lit 0))))
 (.leaf (.bool (.lit false))))
 (.leaf (.bool (.lit false))))
theorem r36_0k0 : r36_0c0.ok 0 M36 spc36 = true := by kernel_rfl
def sm36 : Sm := ⟨[(true, [(.lit (.int .i64 (.lit 36))), (.lit (.str ⟨#[111, 114]⟩)), (.lit (.int .i64 (.lit 6))), (.lit (.int .u32 (.lit 51))), (.lit (.int .u32 (.lit 6))), (.lit (.int .u32 (.lit 0))), (.lit (.int .i64 (.lit 1)))]), (false, [(.int .u32)])], [0], false, r36_0c0⟩
theorem sv36 (G : Nat → Option Nat) (D : Hp) : SmValid Tryd.prog (GofSm G sm36) (DofSm D sm36) 25 sm36 := smValid0 (T := T36) (fuel := 2000) mixed hF (VT36 _ _) rfl r36_0k0
def T37 : List (Nat × List Sm) := [(25, [sm1, sm2, sm3, sm4, sm5, sm6, sm7, sm8, sm9, sm10, sm11, sm12, sm13, sm14, sm15, sm16, sm17, sm18, sm19, sm20, sm21, sm22, sm23, sm24, sm25, sm26, sm27, sm28, sm29, sm30, sm31, sm32, sm33, sm34, sm35, sm36]), (36, [sm0])]
theorem VT37 (G : Nat → Option Nat) (D : Hp) : AllV Tryd.prog G D T37 := ⟨fun sm h => by
  simp only [List.mem_cons, List.not_mem_nil, or_false] at h
  rcases h with rfl | rfl | rfl | rfl | rfl | rfl | rfl | rfl | rfl | rfl | rfl | rfl | rfl | rfl | rfl | rfl | rfl | rfl | rfl | rfl | rfl | rfl | rfl | rfl | rfl | rfl | rfl | rfl | rfl | rfl | rfl | rfl | rfl | rfl | rfl | rfl
  · exact sv1 G D
  · exact sv2 G D
  · exact sv3 G D
  · exact sv4 G D
  · exact sv5 G D
  · exact sv6 G D
  · exact sv7 G D
  · exact sv8 G D
  · exact sv9 G D
  · exact sv10 G D
  · exact sv11 G D
  · exact sv12 G D
  · exact sv13 G D
  · exact sv14 G D
  · exact sv15 G D
  · exact sv16 G D
  · exact sv17 G D
  · exact sv18 G D
  · exact sv19 G D
  · exact sv20 G D
  · exact sv21 G D
  · exact sv22 G D
  · exact sv23 G D
  · exact sv24 G D
  · exact sv25 G D
  · exact sv26 G D
  · exact sv27 G D
  · exact sv28 G D
  · exact sv29 G D
  · exact sv30 G D
  · exact sv31 G D
  · exact sv32 G D
  · exact sv33 G D
  · exact sv34 G D
  · exact sv35 G D
  · exact sv36 G D, ⟨fun sm h => by
  simp only [List.mem_cons, List.not_mem_nil, or_false] at h
  rcases h with rfl
  · exact sv0 G D, trivial⟩⟩
noncomputable def M37 : TT (SV × SP) := evFnD (cfgT F (fun _ => none) hpE T37) 2000 25 (patAs 0 [(true, [(.lit (.int .i64 (.lit 37))), (.lit (.str ⟨#[97, 110, 100]⟩)), (.lit (.int .i64 (.lit 6))), (.lit (.int .u32 (.lit 51))), (.lit (.int .u32 (.lit 7))), (.lit (.int .u32 (.lit 0))), (.lit (.int .i64 (.lit 1)))]), (false, [(.int .u32)])]) ⟨hpE, seedCs (kindsOf [(true, [(.lit (.int .i64 (.lit 37))), (.lit (.str ⟨#[97, 110, 100]⟩)), (.lit (.int .i64 (.lit 6))), (.lit (.int .u32 (.lit 51))), (.lit (.int .u32 (.lit 7))), (.lit (.int .u32 (.lit 0))), (.lit (.int .i64 (.lit 1)))]), (false, [(.int .u32)])]) [0]⟩
def spc37 : PC := seedCs (kindsOf [(true, [(.lit (.int .i64 (.lit 37))), (.lit (.str ⟨#[97, 110, 100]⟩)), (.lit (.int .i64 (.lit 6))), (.lit (.int .u32 (.lit 51))), (.lit (.int .u32 (.lit 7))), (.lit (.int .u32 (.lit 0))), (.lit (.int .i64 (.lit 1)))]), (false, [(.int .u32)])]) [0]
def r37_0c0 : RT := (.node (.cmp .eql (.bin .and .u32 (.var 0) (.lit 127)) (.lit 51)) (.node (.cmp .eql (.bin .and .u32 (.bin .shr .u32 (.var 0) (.lit 12)) (.lit 7)) (.lit 7)) (.leaf (.bool (.cmp .eql (.bin .and .u32 (.bin .shr .u32 (.var 0) (.lit 25)) (.lit 127)) (.lit 0))))
 (.leaf (.bool (.lit false))))
 (.leaf (.bool (.lit false))))
theorem r37_0k0 : r37_0c0.ok 0 M37 spc37 = true := by kernel_rfl
def sm37 : Sm := ⟨[(true, [(.lit (.int .i64 (.lit 37))), (.lit (.str ⟨#[97, 110, 100]⟩)), (.lit (.int .i64 (.lit 6))), (.lit (.int .u32 (.lit 51))), (.lit (.int .u32 (.lit 7))), (.lit (.int .u32 (.lit 0))), (.lit (.int .i64 (.lit 1)))]), (false, [(.int .u32)])], [0], false, r37_0c0⟩
theorem sv37 (G : Nat → Option Nat) (D : Hp) : SmValid Tryd.prog (GofSm G sm37) (DofSm D sm37) 25 sm37 := smValid0 (T := T37) (fuel := 2000) mixed hF (VT37 _ _) rfl r37_0k0
def T38 : List (Nat × List Sm) := [(25, [sm1, sm2, sm3, sm4, sm5, sm6, sm7, sm8, sm9, sm10, sm11, sm12, sm13, sm14, sm15, sm16, sm17, sm18, sm19, sm20, sm21, sm22, sm23, sm24, sm25, sm26, sm27, sm28, sm29, sm30, sm31, sm32, sm33, sm34, sm35, sm36, sm37]), (36, [sm0])]
theorem VT38 (G : Nat → Option Nat) (D : Hp) : AllV Tryd.prog G D T38 := ⟨fun sm h => by
  simp only [List.mem_cons, List.not_mem_nil, or_false] at h
  rcases h with rfl | rfl | rfl | rfl | rfl | rfl | rfl | rfl | rfl | rfl | rfl | rfl | rfl | rfl | rfl | rfl | rfl | rfl | rfl | rfl | rfl | rfl | rfl | rfl | rfl | rfl | rfl | rfl | rfl | rfl | rfl | rfl | rfl | rfl | rfl | rfl | rfl
  · exact sv1 G D
  · exact sv2 G D
  · exact sv3 G D
  · exact sv4 G D
  · exact sv5 G D
  · exact sv6 G D
  · exact sv7 G D
  · exact sv8 G D
  · exact sv9 G D
  · exact sv10 G D
  · exact sv11 G D
  · exact sv12 G D
  · exact sv13 G D
  · exact sv14 G D
  · exact sv15 G D
  · exact sv16 G D
  · exact sv17 G D
  · exact sv18 G D
  · exact sv19 G D
  · exact sv20 G D
  · exact sv21 G D
  · exact sv22 G D
  · exact sv23 G D
  · exact sv24 G D
  · exact sv25 G D
  · exact sv26 G D
  · exact sv27 G D
  · exact sv28 G D
  · exact sv29 G D
  · exact sv30 G D
  · exact sv31 G D
  · exact sv32 G D
  · exact sv33 G D
  · exact sv34 G D
  · exact sv35 G D
  · exact sv36 G D
  · exact sv37 G D, ⟨fun sm h => by
  simp only [List.mem_cons, List.not_mem_nil, or_false] at h
  rcases h with rfl
  · exact sv0 G D, trivial⟩⟩
noncomputable def M38 : TT (SV × SP) := evFnD (cfgT F (fun _ => none) hpE T38) 2000 25 (patAs 0 [(true, [(.lit (.int .i64 (.lit 38))), (.lit (.str ⟨#[102, 101, 110, 99, 101]⟩)), (.lit (.int .i64 (.lit 7))), (.lit (.int .u32 (.lit 15))), (.lit (.int .u32 (.lit 0))), (.lit (.int .u32 (.lit 0))), (.lit (.int .i64 (.lit 7)))]), (false, [(.int .u32)])]) ⟨hpE, seedCs (kindsOf [(true, [(.lit (.int .i64 (.lit 38))), (.lit (.str ⟨#[102, 101, 110, 99, 101]⟩)), (.lit (.int .i64 (.lit 7))), (.lit (.int .u32 (.lit 15))), (.lit (.int .u32 (.lit 0))), (.lit (.int .u32 (.lit 0))), (.lit (.int .i64 (.lit 7)))]), (false, [(.int .u32)])]) [0]⟩
def spc38 : PC := seedCs (kindsOf [(true, [(.lit (.int .i64 (.lit 38))), (.lit (.str ⟨#[102, 101, 110, 99, 101]⟩)), (.lit (.int .i64 (.lit 7))), (.lit (.int .u32 (.lit 15))), (.lit (.int .u32 (.lit 0))), (.lit (.int .u32 (.lit 0))), (.lit (.int .i64 (.lit 7)))]), (false, [(.int .u32)])]) [0]
def r38_0c0 : RT := (.node (.cmp .eql (.bin .and .u32 (.var 0) (.lit 127)) (.lit 15)) (.node (.cmp .eql (.bin .and .u32 (.bin .shr .u32 (.var 0) (.lit 12)) (.lit 7)) (.lit 0)) (.node (.cmp .eql (.bin .and .u32 (.bin .shr .u32 (.var 0) (.lit 7)) (.lit 31)) (.lit 0)) (.node (.cmp .eql (.bin .and .u32 (.bin .shr .u32 (.var 0) (.lit 15)) (.lit 31)) (.lit 0)) (.leaf (.bool (.cmp .eql (.bin .and .u32 (.bin .shr .u32 (.var 0) (.lit 28)) (.lit 15)) (.lit 0))))
 (.leaf (.bool (.lit false))))
 (.leaf (.bool (.lit false))))
 (.leaf (.bool (.lit false))))
 (.leaf (.bool (.lit false))))
theorem r38_0k0 : r38_0c0.ok 0 M38 spc38 = true := by kernel_rfl
def sm38 : Sm := ⟨[(true, [(.lit (.int .i64 (.lit 38))), (.lit (.str ⟨#[102, 101, 110, 99, 101]⟩)), (.lit (.int .i64 (.lit 7))), (.lit (.int .u32 (.lit 15))), (.lit (.int .u32 (.lit 0))), (.lit (.int .u32 (.lit 0))), (.lit (.int .i64 (.lit 7)))]), (false, [(.int .u32)])], [0], false, r38_0c0⟩
theorem sv38 (G : Nat → Option Nat) (D : Hp) : SmValid Tryd.prog (GofSm G sm38) (DofSm D sm38) 25 sm38 := smValid0 (T := T38) (fuel := 2000) mixed hF (VT38 _ _) rfl r38_0k0
def T39 : List (Nat × List Sm) := [(25, [sm1, sm2, sm3, sm4, sm5, sm6, sm7, sm8, sm9, sm10, sm11, sm12, sm13, sm14, sm15, sm16, sm17, sm18, sm19, sm20, sm21, sm22, sm23, sm24, sm25, sm26, sm27, sm28, sm29, sm30, sm31, sm32, sm33, sm34, sm35, sm36, sm37, sm38]), (36, [sm0])]
theorem VT39 (G : Nat → Option Nat) (D : Hp) : AllV Tryd.prog G D T39 := ⟨fun sm h => by
  simp only [List.mem_cons, List.not_mem_nil, or_false] at h
  rcases h with rfl | rfl | rfl | rfl | rfl | rfl | rfl | rfl | rfl | rfl | rfl | rfl | rfl | rfl | rfl | rfl | rfl | rfl | rfl | rfl | rfl | rfl | rfl | rfl | rfl | rfl | rfl | rfl | rfl | rfl | rfl | rfl | rfl | rfl | rfl | rfl | rfl | rfl
  · exact sv1 G D
  · exact sv2 G D
  · exact sv3 G D
  · exact sv4 G D
  · exact sv5 G D
  · exact sv6 G D
  · exact sv7 G D
  · exact sv8 G D
  · exact sv9 G D
  · exact sv10 G D
  · exact sv11 G D
  · exact sv12 G D
  · exact sv13 G D
  · exact sv14 G D
  · exact sv15 G D
  · exact sv16 G D
  · exact sv17 G D
  · exact sv18 G D
  · exact sv19 G D
  · exact sv20 G D
  · exact sv21 G D
  · exact sv22 G D
  · exact sv23 G D
  · exact sv24 G D
  · exact sv25 G D
  · exact sv26 G D
  · exact sv27 G D
  · exact sv28 G D
  · exact sv29 G D
  · exact sv30 G D
  · exact sv31 G D
  · exact sv32 G D
  · exact sv33 G D
  · exact sv34 G D
  · exact sv35 G D
  · exact sv36 G D
  · exact sv37 G D
  · exact sv38 G D, ⟨fun sm h => by
  simp only [List.mem_cons, List.not_mem_nil, or_false] at h
  rcases h with rfl
  · exact sv0 G D, trivial⟩⟩
noncomputable def M39 : TT (SV × SP) := evFnD (cfgT F (fun _ => none) hpE T39) 2000 25 (patAs 0 [(true, [(.lit (.int .i64 (.lit 39))), (.lit (.str ⟨#[102, 101, 110, 99, 101, 46, 105]⟩)), (.lit (.int .i64 (.lit 8))), (.lit (.int .u32 (.lit 4111))), (.lit (.int .u32 (.lit 0))), (.lit (.int .u32 (.lit 0))), (.lit (.int .i64 (.lit 7)))]), (false, [(.int .u32)])]) ⟨hpE, seedCs (kindsOf [(true, [(.lit (.int .i64 (.lit 39))), (.lit (.str ⟨#[102, 101, 110, 99, 101, 46, 105]⟩)), (.lit (.int .i64 (.lit 8))), (.lit (.int .u32 (.lit 4111))), (.lit (.int .u32 (.lit 0))), (.lit (.int .u32 (.lit 0))), (.lit (.int .i64 (.lit 7)))]), (false, [(.int .u32)])]) [0]⟩
def spc39 : PC := seedCs (kindsOf [(true, [(.lit (.int .i64 (.lit 39))), (.lit (.str ⟨#[102, 101, 110, 99, 101, 46, 105]⟩)), (.lit (.int .i64 (.lit 8))), (.lit (.int .u32 (.lit 4111))), (.lit (.int .u32 (.lit 0))), (.lit (.int .u32 (.lit 0))), (.lit (.int .i64 (.lit 7)))]), (false, [(.int .u32)])]) [0]
def r39_0c0 : RT := (.leaf (.bool (.cmp .eql (.var 0) (.lit 4111))))
theorem r39_0k0 : r39_0c0.ok 0 M39 spc39 = true := by kernel_rfl
def sm39 : Sm := ⟨[(true, [(.lit (.int .i64 (.lit 39))), (.lit (.str ⟨#[102, 101, 110, 99, 101, 46, 105]⟩)), (.lit (.int .i64 (.lit 8))), (.lit (.int .u32 (.lit 4111))), (.lit (.int .u32 (.lit 0))), (.lit (.int .u32 (.lit 0))), (.lit (.int .i64 (.lit 7)))]), (false, [(.int .u32)])], [0], false, r39_0c0⟩
theorem sv39 (G : Nat → Option Nat) (D : Hp) : SmValid Tryd.prog (GofSm G sm39) (DofSm D sm39) 25 sm39 := smValid0 (T := T39) (fuel := 2000) mixed hF (VT39 _ _) rfl r39_0k0
def T40 : List (Nat × List Sm) := [(25, [sm1, sm2, sm3, sm4, sm5, sm6, sm7, sm8, sm9, sm10, sm11, sm12, sm13, sm14, sm15, sm16, sm17, sm18, sm19, sm20, sm21, sm22, sm23, sm24, sm25, sm26, sm27, sm28, sm29, sm30, sm31, sm32, sm33, sm34, sm35, sm36, sm37, sm38, sm39]), (36, [sm0])]
theorem VT40 (G : Nat → Option Nat) (D : Hp) : AllV Tryd.prog G D T40 := ⟨fun sm h => by
  simp only [List.mem_cons, List.not_mem_nil, or_false] at h
  rcases h with rfl | rfl | rfl | rfl | rfl | rfl | rfl | rfl | rfl | rfl | rfl | rfl | rfl | rfl | rfl | rfl | rfl | rfl | rfl | rfl | rfl | rfl | rfl | rfl | rfl | rfl | rfl | rfl | rfl | rfl | rfl | rfl | rfl | rfl | rfl | rfl | rfl | rfl | rfl
  · exact sv1 G D
  · exact sv2 G D
  · exact sv3 G D
  · exact sv4 G D
  · exact sv5 G D
  · exact sv6 G D
  · exact sv7 G D
  · exact sv8 G D
  · exact sv9 G D
  · exact sv10 G D
  · exact sv11 G D
  · exact sv12 G D
  · exact sv13 G D
  · exact sv14 G D
  · exact sv15 G D
  · exact sv16 G D
  · exact sv17 G D
  · exact sv18 G D
  · exact sv19 G D
  · exact sv20 G D
  · exact sv21 G D
  · exact sv22 G D
  · exact sv23 G D
  · exact sv24 G D
  · exact sv25 G D
  · exact sv26 G D
  · exact sv27 G D
  · exact sv28 G D
  · exact sv29 G D
  · exact sv30 G D
  · exact sv31 G D
  · exact sv32 G D
  · exact sv33 G D
  · exact sv34 G D
  · exact sv35 G D
  · exact sv36 G D
  · exact sv37 G D
  · exact sv38 G D
  · exact sv39 G D, ⟨fun sm h => by
  simp only [List.mem_cons, List.not_mem_nil, or_false] at h
  rcases h with rfl
  · exact sv0 G D, trivial⟩⟩
noncomputable def M40 : TT (SV × SP) := evFnD (cfgT F (fun _ => none) hpE T40) 2000 25 (patAs 0 [(true, [(.lit (.int .i64 (.lit 40))), (.lit (.str ⟨#[101, 99, 97, 108, 108]⟩)), (.lit (.int .i64 (.lit 8))), (.lit (.int .u32 (.lit 115))), (.lit (.int .u32 (.lit 0))), (.lit (.int .u32 (.lit 0))), (.lit (.int .i64 (.lit 7)))]), (false, [(.int .u32)])]) ⟨hpE, seedCs (kindsOf [(true, [(.lit (.int .i64 (.lit 40))), (.lit (.str ⟨#[101, 99, 97, 108, 108]⟩)), (.lit (.int .i64 (.lit 8))), (.lit (.int .u32 (.lit 115))), (.lit (.int .u32 (.lit 0))), (.lit (.int .u32 (.lit 0))), (.lit (.int .i64 (.lit 7)))]), (false, [(.int .u32)])]) [0]⟩
def spc40 : PC := seedCs (kindsOf [(true, [(.lit (.int .i64 (.lit 40))), (.lit (.str ⟨#[101, 99, 97, 108, 108]⟩)), (.lit (.int .i64 (.lit 8))), (.lit (.int .u32 (.lit 115))), (.lit (.int .u32 (.lit 0))), (.lit (.int .u32 (.lit 0))), (.lit (.int .i64 (.lit 7)))]), (false, [(.int .u32)])]) [0]
def r40_0c0 : RT := (.leaf (.bool (.cmp .eql (.var 0) (.lit 115))))
theorem r40_0k0 : r40_0c0.ok 0 M40 spc40 = true := by kernel_rfl
def sm40 : Sm := ⟨[(true, [(.lit (.int .i64 (.lit 40))), (.lit (.str ⟨#[101, 99, 97, 108, 108]⟩)), (.lit (.int .i64 (.lit 8))), (.lit (.int .u32 (.lit 115))), (.lit (.int .u32 (.lit 0))), (.lit (.int .u32 (.lit 0))), (.lit (.int .i64 (.lit 7)))]), (false, [(.int .u32)])], [0], false, r40_0c0⟩
theorem sv40 (G : Nat → Option Nat) (D : Hp) : SmValid Tryd.prog (GofSm G sm40) (DofSm D sm40) 25 sm40 := smValid0 (T := T40) (fuel := 2000) mixed hF (VT40 _ _) rfl r40_0k0
def T41 : List (Nat × List Sm) := [(25, [sm1, sm2, sm3, sm4, sm5, sm6, sm7, sm8, sm9, sm10, sm11, sm12, sm13, sm14, sm15, sm16, sm17, sm18, sm19, sm20, sm21, sm22, sm23, sm24, sm25, sm26, sm27, sm28, sm29, sm30, sm31, sm32, sm33, sm34, sm35, sm36, sm37, sm38, sm39, sm40]), (36, [sm0])]
theorem VT41 (G : Nat → Option Nat) (D : Hp) : AllV Tryd.prog G D T41 := ⟨fun sm h => by
  simp only [List.mem_cons, List.not_mem_nil, or_false] at h
  rcases h with rfl | rfl | rfl | rfl | rfl | rfl | rfl | rfl | rfl | rfl | rfl | rfl | rfl | rfl | rfl | rfl | rfl | rfl | rfl | rfl | rfl | rfl | rfl | rfl | rfl | rfl | rfl | rfl | rfl | rfl | rfl | rfl | rfl | rfl | rfl | rfl | rfl | rfl | rfl | rfl
  · exact sv1 G D
  · exact sv2 G D
  · exact sv3 G D
  · exact sv4 G D
  · exact sv5 G D
  · exact sv6 G D
  · exact sv7 G D
  · exact sv8 G D
  · exact sv9 G D
  · exact sv10 G D
  · exact sv11 G D
  · exact sv12 G D
  · exact sv13 G D
  · exact sv14 G D
  · exact sv15 G D
  · exact sv16 G D
  · exact sv17 G D
  · exact sv18 G D
  · exact sv19 G D
  · exact sv20 G D
  · exact sv21 G D
  · exact sv22 G D
  · exact sv23 G D
  · exact sv24 G D
  · exact sv25 G D
  · exact sv26 G D
  · exact sv27 G D
  · exact sv28 G D
  · exact sv29 G D
  · exact sv30 G D
  · exact sv31 G D
  · exact sv32 G D
  · exact sv33 G D
  · exact sv34 G D
  · exact sv35 G D
  · exact sv36 G D
  · exact sv37 G D
  · exact sv38 G D
  · exact sv39 G D
  · exact sv40 G D, ⟨fun sm h => by
  simp only [List.mem_cons, List.not_mem_nil, or_false] at h
  rcases h with rfl
  · exact sv0 G D, trivial⟩⟩
noncomputable def M41 : TT (SV × SP) := evFnD (cfgT F (fun _ => none) hpE T41) 2000 25 (patAs 0 [(true, [(.lit (.int .i64 (.lit 41))), (.lit (.str ⟨#[101, 98, 114, 101, 97, 107]⟩)), (.lit (.int .i64 (.lit 8))), (.lit (.int .u32 (.lit 1048691))), (.lit (.int .u32 (.lit 0))), (.lit (.int .u32 (.lit 0))), (.lit (.int .i64 (.lit 7)))]), (false, [(.int .u32)])]) ⟨hpE, seedCs (kindsOf [(true, [(.lit (.int .i64 (.lit 41))), (.lit (.str ⟨#[101, 98, 114, 101, 97, 107]⟩)), (.lit (.int .i64 (.lit 8))), (.lit (.int .u32 (.lit 1048691))), (.lit (.int .u32 (.lit 0))), (.lit (.int .u32 (.lit 0))), (.lit (.int .i64 (.lit 7)))]), (false, [(.int .u32)])]) [0]⟩
def spc41 : PC := seedCs (kindsOf [(true, [(.lit (.int .i64 (.lit 41))), (.lit (.str ⟨#[101, 98, 114, 101, 97, 107]⟩)), (.lit (.int .i64 (.lit 8))), (.lit (.int .u32 (.lit 1048691))), (.lit (.int .u32 (.lit 0))), (.lit (.int .u32 (.lit 0))), (.lit (.int .i64 (.lit 7)))]), (false, [(.int .u32)])]) [0]
def r41_0c0 : RT := (.leaf (.bool (.cmp .eql (.var 0) (.lit 1048691))))
theorem r41_0k0 : r41_0c0.ok 0 M41 spc41 = true := by kernel_rfl
def sm41 : Sm := ⟨[(true, [(.lit (.int .i64 (.lit 41))), (.lit (.str ⟨#[101, 98, 114, 101, 97, 107]⟩)), (.lit (.int .i64 (.lit 8))), (.lit (.int .u32 (.lit 1048691))), (.lit (.int .u32 (.lit 0))), (.lit (.int .u32 (.lit 0))), (.lit (.int .i64 (.lit 7)))]), (false, [(.int .u32)])], [0], false, r41_0c0⟩
theorem sv41 (G : Nat → Option Nat) (D : Hp) : SmValid Tryd.prog (GofSm G sm41) (DofSm D sm41) 25 sm41 := smValid0 (T := T41) (fuel := 2000) mixed hF (VT41 _ _) rfl r41_0k0
def T42 : List (Nat × List Sm) := [(25, [sm1, sm2, sm3, sm4, sm5, sm6, sm7, sm8, sm9, sm10, sm11, sm12, sm13, sm14, sm15, sm16, sm17, sm18, sm19, sm20, sm21, sm22, sm23, sm24, sm25, sm26, sm27, sm28, sm29, sm30, sm31, sm32, sm33, sm34, sm35, sm36, sm37, sm38, sm39, sm40, sm41]), (36, [sm0])]
theorem VT42 (G : Nat → Option Nat) (D : Hp) : AllV Tryd.prog G D T42 := ⟨fun sm h => by
  simp only [List.mem_cons, List.not_mem_nil, or_false] at h
  rcases h with rfl | rfl | rfl | rfl | rfl | rfl | rfl | rfl | rfl | rfl | rfl | rfl | rfl | rfl | rfl | rfl | rfl | rfl | rfl | rfl | rfl | rfl | rfl | rfl | rfl | rfl | rfl | rfl | rfl | rfl | rfl | rfl | rfl | rfl | rfl | rfl | rfl | rfl | rfl | rfl | rfl
  · exact sv1 G D
  · exact sv2 G D
  · exact sv3 G D
  · exact sv4 G D
  · exact sv5 G D
  · exact sv6 G D
  · exact sv7 G D
  · exact sv8 G D
  · exact sv9 G D
  · exact sv10 G D
  · exact sv11 G D
  · exact sv12 G D
  · exact sv13 G D
  · exact sv14 G D
  · exact sv15 G D
  · exact sv16 G D
  · exact sv17 G D
  · exact sv18 G D
  · exact sv19 G D
  · exact sv20 G D
  · exact sv21 G D
  · exact sv22 G D
  · exact sv23 G D
  · exact sv24 G D
  · exact sv25 G D
  · exact sv26 G D
  · exact sv27 G D
  · exact sv28 G D
  · exact sv29 G D
  · exact sv30 G D
  · exact sv31 G D
  · exact sv32 G D
  · exact sv33 G D
  · exact sv34 G D
  · exact sv35 G D
  · exact sv36 G D
  · exact sv37 G D
  · exact sv38 G D
  · exact sv39 G D
  · exact sv40 G D
  · exact sv41 G D, ⟨fun sm h => by
  simp only [List.mem_cons, List.not_mem_nil, or_false] at h
  rcases h with rfl
  · exact sv0 G D, trivial⟩⟩
noncomputable def M42 : TT (SV × SP) := evFnD (cfgT F (fun _ => none) hpE T42) 2000 25 (patAs 0 [(true, [(.lit (.int .i64 (.lit 42))), (.lit (.str ⟨#[109, 114, 101, 116]⟩)), (.lit (.int .i64 (.lit 8))), (.lit (.int .u32 (.lit 807403635))), (.lit (.int .u32 (.lit 0))), (.lit (.int .u32 (.lit 0))), (.lit (.int .i64 (.lit 7)))]), (false, [(.int .u32)])]) ⟨hpE, seedCs (kindsOf [(true, [(.lit (.int .i64 (.lit 42))), (.lit (.str ⟨#[109, 114, 101, 116]⟩)), (.lit (.int .i64 (.lit 8))), (.lit (.int .u32 (.lit 807403635))), (.lit (.int .u32 (.lit 0))), (.lit (.int .u32 (.lit 0))), (.lit (.int .i64 (.lit 7)))]), (false, [(.int .u32)])]) [0]⟩
def spc42 : PC := seedCs (kindsOf [(true, [(.lit (.int .i64 (.lit 42))), (.lit (.str ⟨#[109, 114, 101, 116]⟩)), (.lit (.int .i64 (.lit 8))), (.lit (.int .u32 (.lit 807403635))), (.lit (.int .u32 (.lit 0))), (.lit (.int .u32 (.lit 0))), (.lit (.int .i64 (.lit 7)))]), (false, [(.int .u32)])]) [0]
def r42_0c0 : RT := (.leaf (.bool (.cmp .eql (.var 0) (.lit 807403635))))
theorem r42_0k0 : r42_0c0.ok 0 M42 spc42 = true := by kernel_rfl
def sm42 : Sm := ⟨[(true, [(.lit (.int .i64 (.lit 42))), (.lit (.str ⟨#[109, 114, 101, 116]⟩)), (.lit (.int .i64 (.lit 8))), (.lit (.int .u32 (.lit 807403635))), (.lit (.int .u32 (.lit 0))), (.lit (.int .u32 (.lit 0))), (.lit (.int .i64 (.lit 7)))]), (false, [(.int .u32)])], [0], false, r42_0c0⟩
theorem sv42 (G : Nat → Option Nat) (D : Hp) : SmValid Tryd.prog (GofSm G sm42) (DofSm D sm42) 25 sm42 := smValid0 (T := T42) (fuel := 2000) mixed hF (VT42 _ _) rfl r42_0k0
def T43 : List (Nat × List Sm) := [(25, [sm1, sm2, sm3, sm4, sm5, sm6, sm7, sm8, sm9, sm10, sm11, sm12, sm13, sm14, sm15, sm16, sm17, sm18, sm19, sm20, sm21, sm22, sm23, sm24, sm25, sm26, sm27, sm28, sm29, sm30, sm31, sm32, sm33, sm34, sm35, sm36, sm37, sm38, sm39, sm40, sm41, sm42]), (36, [sm0])]
theorem VT43 (G : Nat → Option Nat) (D : Hp) : AllV Tryd.prog G D T43 := ⟨fun sm h => by
  simp only [List.mem_cons, List.not_mem_nil, or_false] at h
  rcases h with rfl | rfl | rfl | rfl | rfl | rfl | rfl | rfl | rfl | rfl | rfl | rfl | rfl | rfl | rfl | rfl | rfl | rfl | rfl | rfl | rfl | rfl | rfl | rfl | rfl | rfl | rfl | rfl | rfl | rfl | rfl | rfl | rfl | rfl | rfl | rfl | rfl | rfl | rfl | rfl | rfl | rfl
  · exact sv1 G D
  · exact sv2 G D
  · exact sv3 G D
  · exact sv4 G D
  · exact sv5 G D
  · exact sv6 G D
  · exact sv7 G D
  · exact sv8 G D
  · exact sv9 G D
  · exact sv10 G D
  · exact sv11 G D
  · exact sv12 G D
  · exact sv13 G D
  · exact sv14 G D
  · exact sv15 G D
  · exact sv16 G D
  · exact sv17 G D
  · exact sv18 G D
  · exact sv19 G D
  · exact sv20 G D
  · exact sv21 G D
  · exact sv22 G D
  · exact sv23 G D
  · exact sv24 G D
  · exact sv25 G D
  · exact sv26 G D
  · exact sv27 G D
  · exact sv28 G D
  · exact sv29 G D
  · exact sv30 G D
  · exact sv31 G D
  · exact sv32 G D
  · exact sv33 G D
  · exact sv34 G D
  · exact sv35 G D
  · exact sv36 G D
  · exact sv37 G D
  · exact sv38 G D
  · exact sv39 G D
  · exact sv40 G D
  · exact sv41 G D
  · exact sv42 G D, ⟨fun sm h => by
  simp only [List.mem_cons, List.not_mem_nil, or_false] at h
  rcases h with rfl
  · exact sv0 G D, trivial⟩⟩
noncomputable def M43 : TT (SV × SP) := evFnD (cfgT F (fun _ => none) hpE T43) 2000 25 (patAs 0 [(true, [(.lit (.int .i64 (.lit 43))), (.lit (.str ⟨#[119, 102, 105]⟩)), (.lit (.int .i64 (.lit 8))), (.lit (.int .u32 (.lit 273678451))), (.lit (.int .u32 (.lit 0))), (.lit (.int .u32 (.lit 0))), (.lit (.int .i64 (.lit 7)))]), (false, [(.int .u32)])]) ⟨hpE, seedCs (kindsOf [(true, [(.lit (.int .i64 (.lit 43))), (.lit (.str ⟨#[119, 102, 105]⟩)), (.lit (.int .i64 (.lit 8))), (.lit (.int .u32 (.lit 273678451))), (.lit (.int .u32 (.lit 0))), (.lit (.int .u32 (.lit 0))), (.lit (.int .i64 (.lit 7)))]), (false, [(.int .u32)])]) [0]⟩
def spc43 : PC := seedCs (kindsOf [(true, [(.lit (.int .i64 (.lit 43))), (.lit (.str ⟨#[119, 102, 105]⟩)), (.lit (.int .i64 (.lit 8))), (.lit (.int .u32 (.lit 273678451))), (.lit (.int .u32 (.lit 0))), (.lit (.int .u32 (.lit 0))), (.lit (.int .i64 (.lit 7)))]), (false, [(.int .u32)])]) [0]
def r43_0c0 : RT := (.leaf (.bool (.cmp .eql (.var 0) (.lit 273678451))))
theorem r43_0k0 : r43_0c0.ok 0 M43 spc43 = true := by kernel_rfl
def sm43 : Sm := ⟨[(true, [(.lit (.int .i64 (.lit 43))), (.lit (.str ⟨#[119, 102, 105]⟩)), (.lit (.int .i64 (.lit 8))), (.lit (.int .u32 (.lit 273678451))), (.lit (.int .u32 (.lit 0))), (.lit (.int .u32 (.lit 0))), (.lit (.int .i64 (.lit 7)))]), (false, [(.int .u32)])], [0], false, r43_0c0⟩
theorem sv43 (G : Nat → Option Nat) (D : Hp) : SmValid Tryd.prog (GofSm G sm43) (DofSm D sm43) 25 sm43 := smValid0 (T := T43) (fuel := 2000) mixed hF (VT43 _ _) rfl r43_0k0
def T44 : List (Nat × List Sm) := [(25, [sm1, sm2, sm3, sm4, sm5, sm6, sm7, sm8, sm9, sm10, sm11, sm12, sm13, sm14, sm15, sm16, sm17, sm18, sm19, sm20, sm21, sm22, sm23, sm24, sm25, sm26, sm27, sm28, sm29, sm30, sm31, sm32, sm33, sm34, sm35, sm36, sm37, sm38, sm39, sm40, sm41, sm42, sm43]), (36, [sm0])]
theorem VT44 (G : Nat → Option Nat) (D : Hp) : AllV Tryd.prog G D T44 := ⟨fun sm h => by
  simp only [List.mem_cons, List.not_mem_nil, or_false] at h
  rcases h with rfl | rfl | rfl | rfl | rfl | rfl | rfl | rfl | rfl | rfl | rfl | rfl | rfl | rfl | rfl | rfl | rfl | rfl | rfl | rfl | rfl | rfl | rfl | rfl | rfl | rfl | rfl | rfl | rfl | rfl | rfl | rfl | rfl | rfl | rfl | rfl | rfl | rfl | rfl | rfl | rfl | rfl | rfl
  · exact sv1 G D
  · exact sv2 G D
  · exact sv3 G D
  · exact sv4 G D
  · exact sv5 G D
  · exact sv6 G D
  · exact sv7 G D
  · exact sv8 G D
  · exact sv9 G D
  · exact sv10 G D
  · exact sv11 G D
  · exact sv12 G D
  · exact sv13 G D
  · exact sv14 G D
  · exact sv15 G D
  · exact sv16 G D
  · exact sv17 G D
  · exact sv18 G D
  · exact sv19 G D
  · exact sv20 G D
  · exact sv21 G D
  · exact sv22 G D
  · exact sv23 G D
  · exact sv24 G D
  · exact sv25 G D
  · exact sv26 G D
  · exact sv27 G D
  · exact sv28 G D
  · exact sv29 G D
  · exact sv30 G D
  · exact sv31 G D
  · exact sv32 G D
  · exact sv33 G D
  · exact sv34 G D
  · exact sv35 G D
  · exact sv36 G D
  · exact sv37 G D
  · exact sv38 G D
  · exact sv39 G D
  · exact sv40 G D
  · exact sv41 G D
  · exact sv42 G D
  · exact sv43 G D, ⟨fun sm h => by
  simp only [List.mem_cons, List.not_mem_nil, or_false] at h
  rcases h with rfl
  · exact sv0 G D, trivial⟩⟩
noncomputable def M44 : TT (SV × SP) := evFnD (cfgT F (fun _ => none) hpE T44) 2000 25 (patAs 0 [(true, [(.lit (.int .i64 (.lit 44))), (.lit (.str ⟨#[115, 102, 101, 110, 99, 101, 46, 118, 109, 97]⟩)), (.lit (.int .i64 (.lit 9))), (.lit (.int .u32 (.lit 115))), (.lit (.int .u32 (.lit 0))), (.lit (.int .u32 (.lit 9))), (.lit (.int .i64 (.lit 7)))]), (false, [(.int .u32)])]) ⟨hpE, seedCs (kindsOf [(true, [(.lit (.int .i64 (.lit 44))), (.lit (.str ⟨#[115, 102, 101, 110, 99, 101, 46, 118, 109, 97]⟩)), (.lit (.int .i64 (.lit 9))), (.lit (.int .u32 (.lit 115))), (.lit (.int .u32 (.lit 0))), (.lit (.int .u32 (.lit 9))), (.lit (.int .i64 (.lit 7)))]), (false, [(.int .u32)])]) [0]⟩
def spc44 : PC := seedCs (kindsOf [(true, [(.lit (.int .i64 (.lit 44))), (.lit (.str ⟨#[115, 102, 101, 110, 99, 101, 46, 118, 109, 97]⟩)), (.lit (.int .i64 (.lit 9))), (.lit (.int .u32 (.lit 115))), (.lit (.int .u32 (.lit 0))), (.lit (.int .u32 (.lit 9))), (.lit (.int .i64 (.lit 7)))]), (false, [(.int .u32)])]) [0]
def r44_0c0 : RT := (.node (.cmp .eql (.bin .and .u32 (.var 0) (.lit 127)) (.lit 115)) (.node (.cmp .eql (.bin .and .u32 (.bin .shr .u32 (.var 0) (.lit 12)) (.lit 7)) (.lit 0)) (.node (.cmp .eql (.bin .and .u32 (.bin .shr .u32 (.var 0) (.lit 25)) (.lit 127)) (.lit 9)) (.leaf (.bool (.cmp .eql (.bin .and .u32 (.bin .shr .u32 (.var 0) (.lit 7)) (.lit 31)) (.lit 0))))
 (.leaf (.bool (.lit false))))
 (.leaf (.bool (.lit false))))
 (.leaf (.bool (.lit false))))
theorem r44_0k0 : r44_0c0.ok 0 M44 spc44 = true := by kernel_rfl
def sm44 : Sm := ⟨[(true, [(.lit (.int .i64 (.lit 44))), (.lit (.str ⟨#[115, 102, 101, 110, 99, 101, 46, 118, 109, 97]⟩)), (.lit (.int .i64 (.lit 9))), (.lit (.int .u32 (.lit 115))), (.lit (.int .u32 (.lit 0))), (.lit (.int .u32 (.lit 9))), (.lit (.int .i64 (.lit 7)))]), (false, [(.int .u32)])], [0], false, r44_0c0⟩
theorem sv44 (G : Nat → Option Nat) (D : Hp) : SmValid Tryd.prog (GofSm G sm44) (DofSm D sm44) 25 sm44 := smValid0 (T := T44) (fuel := 2000) mixed hF (VT44 _ _) rfl r44_0k0
def T45 : List (Nat × List Sm) := [(25, [sm1, sm2, sm3, sm4, sm5, sm6, sm7, sm8, sm9, sm10, sm11, sm12, sm13, sm14, sm15, sm16, sm17, sm18, sm19, sm20, sm21, sm22, sm23, sm24, sm25, sm26, sm27, sm28, sm29, sm30, sm31, sm32, sm33, sm34, sm35, sm36, sm37, sm38, sm39, sm40, sm41, sm42, sm43, sm44]), (36, [sm0])]
theorem VT45 (G : Nat → Option Nat) (D : Hp) : AllV Tryd.prog G D T45 := ⟨fun sm h => by
  simp only [List.mem_cons, List.not_mem_nil, or_false] at h
  rcases h with rfl | rfl | rfl | rfl | rfl | rfl | rfl | rfl | rfl | rfl | rfl | rfl | rfl | rfl | rfl | rfl | rfl | rfl | rfl | rfl | rfl | rfl | rfl | rfl | rfl | rfl | rfl | rfl | rfl | rfl | rfl | rfl | rfl | rfl | rfl | rfl | rfl | rfl | rfl | rfl | rfl | rfl | rfl | rfl
  · exact sv1 G D
  · exact sv2 G D
  · exact sv3 G D
  · exact sv4 G D
  · exact sv5 G D
  · exact sv6 G D
  · exact sv7 G D
  · exact sv8 G D
  · exact sv9 G D
  · exact sv10 G D
  · exact sv11 G D
  · exact sv12 G D
  · exact sv13 G D
  · exact sv14 G D
  · exact sv15 G D
  · exact sv16 G D
  · exact sv17 G D
  · exact sv18 G D
  · exact sv19 G D
  · exact sv20 G D
  · exact sv21 G D
  · exact sv22 G D
  · exact sv23 G D
  · exact sv24 G D
  · exact sv25 G D
  · exact sv26 G D
  · exact sv27 G D
  · exact sv28 G D
  · exact sv29 G D
  · exact sv30 G D
  · exact sv31 G D
  · exact sv32 G D
  · exact sv33 G D
  · exact sv34 G D
  · exact sv35 G D
  · exact sv36 G D
  · exact sv37 G D
  · exact sv38 G D
  · exact sv39 G D
  · exact sv40 G D
  · exact sv41 G D
  · exact sv42 G D
  · exact sv43 G D
  · exact sv44 G D, ⟨fun sm h => by
  simp only [List.mem_cons, List.not_mem_nil, or_false] at h
  rcases h with rfl
  · exact sv0 G D, trivial⟩⟩
noncomputable def M45 : TT (SV × SP) := evFnD (cfgT F (fun _ => none) hpE T45) 2000 25 (patAs 0 [(true, [(.lit (.int .i64 (.lit 45))), (.lit (.str ⟨#[99, 115, 114, 114, 119]⟩)), (.lit (.int .i64 (.lit 10))), (.lit (.int .u32 (.lit 115))), (.lit (.int .u32 (.lit 1))), (.lit (.int .u32 (.lit 0))), (.lit (.int .i64 (.lit 7)))]), (false, [(.int .u32)])]) ⟨hpE, seedCs (kindsOf [(true, [(.lit (.int .i64 (.lit 45))), (.lit (.str ⟨#[99, 115, 114, 114, 119]⟩)), (.lit (.int .i64 (.lit 10))), (.lit (.int .u32 (.lit 115))), (.lit (.int .u32 (.lit 1))), (.lit (.int .u32 (.lit 0))), (.lit (.int .i64 (.lit 7)))]), (false, [(.int .u32)])]) [0]⟩
def spc45 : PC := seedCs (kindsOf [(true, [(.lit (.int .i64 (.lit 45))), (.lit (.str ⟨#[99, 115, 114, 114, 119]⟩)), (.lit (.int .i64 (.lit 10))), (.lit (.int .u32 (.lit 115))), (.lit (.int .u32 (.lit 1))), (.lit (.int .u32 (.lit 0))), (.lit (.int .i64 (.lit 7)))]), (false, [(.int .u32)])]) [0]
def r45_0c0 : RT := (.node (.cmp .eql (.bin .and .u32 (.var 0) (.lit 127)) (.lit 115)) (.leaf (.bool (.cmp .eql (.bin .and .u32 (.bin .shr .u32 (.var 0) (.lit 12)) (.lit 7)) (.lit 1))))
 (.leaf (.bool (.lit false))))
theorem r45_0k0 : r45_0c0.ok 0 M45 spc45 = true := by kernel_rfl
def sm45 : Sm := ⟨[(true, [(.lit (.int .i64 (.lit 45))), (.lit (.str ⟨#[99, 115, 114, 114, 119]⟩)), (.lit (.int .i64 (.lit 10))), (.lit (.int .u32 (.lit 115))), (.lit (.int .u32 (.lit 1))), (.lit (.int .u32 (.lit 0))), (.lit (.int .i64 (.lit 7)))]), (false, [(.int .u32)])], [0], false, r45_0c0⟩
theorem sv45 (G : Nat → Option Nat) (D : Hp) : SmValid Tryd.prog (GofSm G sm45) (DofSm D sm45) 25 sm45 := smValid0 (T := T45) (fuel := 2000) mixed hF (VT45 _ _) rfl r45_0k0
end Go.Proofs.YtagaclifeoiepabDoor.isaOpcodes

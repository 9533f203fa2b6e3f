/- HartBranches: a branch goes where it says, or on, or traps. No condition. -/
import Derived.Test.YtlpmhfgcbfjpfaaGreatDoorSHartBranchesc
import Derived.Test.YtlpmhfgcbfjpfaaGreatDoorSyAr
import Derived.Test.YtlpmhfgcbfjpfaaGreatDoorSyFin
import Derived.Test.YtlpmhfgcbfjpfaaGreatDoorSyCut
import Derived.Test.YtlpmhfgcbfjpfaaGreatDoorTie
import Derived.Test.YtlpmhfgcbfjpfaaGreatDoorCards
import Derived.SevenTiedAt
namespace Go.Proofs.YtlpmhfgcbfjpfaaGreatDoor.hartBranches
open Go.Sx Go.ChangeShapes Go.WideShapes Go.ChangeAt Go.RowKit
set_option linter.unusedVariables false
set_option linter.unusedSimpArgs false
set_option maxRecDepth 1000000

theorem own : ownKnob Tryz.prog.godebug = none := by kernel_rfl
def shs : List (Bool × List CK) := [(false, [.int .i64]), (false, [.int .u32]), (false, [.int .u32]), (false, [.int .i64])]
def pc0 : PC := seeds (allK shs) []
theorem door_sz : doorH.sz = 2 := by kernel_rfl
theorem G_lt' : ∀ g id, G g = some id → id < 2 := fun g id h => by have := G_lt g id h; rwa [door_sz] at this
def B0 : ACode := af5.body
def T0_0 : Tp := ⟨symAs 0 shs ++ List.replicate (af5.ntmps - (symAs 0 shs).length) sundef, objsFrom 212 0 doorL, pc0⟩
def Ts0 : List Tp := [T0_0]
def T1_0 : Tp := ⟨List.append ([(.int .i64 (.cv .i64 (.var 0))), (.int .u32 (.cv .u32 (.var 1))), (.int .u32 (.cv .u32 (.var 2))), (.int .i64 (.cv .i64 (.var 3))), .lost, .lost, .lost, .lost, .lost, (.bool (.lit true))]) (List.replicate 98 .lost),
 objsFrom 212 0 doorL ++ [],
 []⟩
def Ts1 : List Tp := [T1_0]
def B1 : ACode := sufC 3 B0
noncomputable def M0_0 : TT (Ex × Fr × SP) := evPre CL 2000 3 B0 T0_0.fr T0_0.sp
def T2_0 : Tp := ⟨List.append ([.lost, (.int .u32 (.cv .u32 (.var 0))), (.int .u32 (.cv .u32 (.var 1))), .lost, .lost, .lost, .lost, .lost, .lost, (.bool (.lit true)), (.int .i64 (.bin .and .i64 (.cv .i64 (.var 2)) (.lit 15))), (.int .u32 (.bin .shl .u32 (.bin .or .u32 (.bin .and .u32 (.bin .sub .i64 (.bin .rem .i64 (.bin .add .i64 (.bin .rem .i64 (.cv .i64 (.var 3)) (.lit 64)) (.lit 64)) (.lit 64)) (.lit 8)) (.lit 7)) (.lit 4294967288)) (.lit 1)))]) (List.replicate 96 .lost),
 objsFrom 212 0 doorL ++ [],
 [((.cmp .lss (.bin .and .i64 (.cv .i64 (.var 2)) (.lit 15)) (.lit 5)), false), ((.cmp .lss (.lit 10) (.bin .and .i64 (.cv .i64 (.var 2)) (.lit 15))), false)]⟩
def T2_1 : Tp := ⟨List.append ([.lost, (.int .u32 (.cv .u32 (.var 0))), (.int .u32 (.cv .u32 (.var 1))), .lost, .lost, .lost, .lost, .lost, .lost, (.bool (.lit true)), (.int .i64 (.bin .and .i64 (.cv .i64 (.var 2)) (.lit 15))), (.int .u32 (.bin .shl .u32 (.bin .and .u32 (.bin .sub .i64 (.bin .rem .i64 (.bin .add .i64 (.bin .rem .i64 (.cv .i64 (.var 3)) (.lit 64)) (.lit 64)) (.lit 64)) (.lit 8)) (.lit 63)) (.lit 1)))]) (List.replicate 96 .lost),
 objsFrom 212 0 doorL ++ [],
 [((.cmp .lss (.bin .and .i64 (.cv .i64 (.var 2)) (.lit 15)) (.lit 5)), false), ((.cmp .lss (.lit 10) (.bin .and .i64 (.cv .i64 (.var 2)) (.lit 15))), false)]⟩
def Ts2 : List Tp := [T2_0, T2_1]
def B2 : ACode := sufC 2 B1
noncomputable def M1_0 : TT (Ex × Fr × SP) := evPre CL 2000 2 B1 T1_0.fr T1_0.sp
def sk1_0 : Sk := (.node .hole .hole)
def T3_0 : Tp := ⟨List.append ([.lost, (.int .u32 (.cv .u32 (.var 0))), (.int .u32 (.cv .u32 (.var 1))), .lost, .lost, .lost, .lost, .lost, .lost, (.bool (.lit true)), (.int .i64 (.bin .and .i64 (.cv .i64 (.var 2)) (.lit 15))), (.int .u32 (.bin .shl .u32 (.bin .or .u32 (.bin .and .u32 (.bin .sub .i64 (.bin .rem .i64 (.bin .add .i64 (.bin .rem .i64 (.cv .i64 (.var 3)) (.lit 64)) (.lit 64)) (.lit 64)) (.lit 8)) (.lit 7)) (.lit 4294967288)) (.lit 1))), (.ptr 2 0)]) (List.replicate 95 .lost),
 objsFrom 212 0 doorL ++ [(.cells [(.bool (.lit false)), (.int .u32 (.lit 0)), (.int .u32 (.lit 0)), (.int .u32 (.lit 0)), (.int .u32 (.lit 0)), (.int .u32 (.lit 0)), (.int .u32 (.lit 0)), (.int .u32 (.lit 0)), (.int .u32 (.lit 0)), (.int .u32 (.lit 0)), (.int .u32 (.lit 0)), (.int .u32 (.lit 0)), (.int .u32 (.lit 0)), (.int .u32 (.lit 0)), (.int .u32 (.lit 0)), (.int .u32 (.lit 0)), (.int .u32 (.lit 0)), (.int .u32 (.lit 0)), (.int .u32 (.lit 0)), (.int .u32 (.lit 0)), (.int .u32 (.lit 0)), (.int .u32 (.lit 0)), (.int .u32 (.lit 0)), (.int .u32 (.lit 0)), (.int .u32 (.lit 0)), (.int .u32 (.lit 0)), (.int .u32 (.lit 0)), (.int .u32 (.lit 0)), (.int .u32 (.lit 0)), (.int .u32 (.lit 0)), (.int .u32 (.lit 0)), (.int .u32 (.lit 0)), (.int .u32 (.lit 0)), (.int .u32 (.lit 0)), (.int .u32 (.lit 0)), (.int .u32 (.lit 0)), (.int .u32 (.lit 0)), (.int .u32 (.lit 0)), (.int .u32 (.lit 0)), (.int .u32 (.lit 0)), (.int .u32 (.lit 0)), (.int .u32 (.lit 0)), (.int .u32 (.lit 0)), (.int .u32 (.lit 0)), (.int .i64 (.lit 4096))] false)],
 [((.cmp .lss (.bin .and .i64 (.cv .i64 (.var 2)) (.lit 15)) (.lit 5)), false), ((.cmp .lss (.lit 10) (.bin .and .i64 (.cv .i64 (.var 2)) (.lit 15))), false)]⟩
def T3_1 : Tp := ⟨List.append ([.lost, (.int .u32 (.cv .u32 (.var 0))), (.int .u32 (.cv .u32 (.var 1))), .lost, .lost, .lost, .lost, .lost, .lost, (.bool (.lit true)), (.int .i64 (.bin .and .i64 (.cv .i64 (.var 2)) (.lit 15))), (.int .u32 (.bin .shl .u32 (.bin .and .u32 (.bin .sub .i64 (.bin .rem .i64 (.bin .add .i64 (.bin .rem .i64 (.cv .i64 (.var 3)) (.lit 64)) (.lit 64)) (.lit 64)) (.lit 8)) (.lit 63)) (.lit 1))), (.ptr 2 0)]) (List.replicate 95 .lost),
 objsFrom 212 0 doorL ++ [(.cells [(.bool (.lit false)), (.int .u32 (.lit 0)), (.int .u32 (.lit 0)), (.int .u32 (.lit 0)), (.int .u32 (.lit 0)), (.int .u32 (.lit 0)), (.int .u32 (.lit 0)), (.int .u32 (.lit 0)), (.int .u32 (.lit 0)), (.int .u32 (.lit 0)), (.int .u32 (.lit 0)), (.int .u32 (.lit 0)), (.int .u32 (.lit 0)), (.int .u32 (.lit 0)), (.int .u32 (.lit 0)), (.int .u32 (.lit 0)), (.int .u32 (.lit 0)), (.int .u32 (.lit 0)), (.int .u32 (.lit 0)), (.int .u32 (.lit 0)), (.int .u32 (.lit 0)), (.int .u32 (.lit 0)), (.int .u32 (.lit 0)), (.int .u32 (.lit 0)), (.int .u32 (.lit 0)), (.int .u32 (.lit 0)), (.int .u32 (.lit 0)), (.int .u32 (.lit 0)), (.int .u32 (.lit 0)), (.int .u32 (.lit 0)), (.int .u32 (.lit 0)), (.int .u32 (.lit 0)), (.int .u32 (.lit 0)), (.int .u32 (.lit 0)), (.int .u32 (.lit 0)), (.int .u32 (.lit 0)), (.int .u32 (.lit 0)), (.int .u32 (.lit 0)), (.int .u32 (.lit 0)), (.int .u32 (.lit 0)), (.int .u32 (.lit 0)), (.int .u32 (.lit 0)), (.int .u32 (.lit 0)), (.int .u32 (.lit 0)), (.int .i64 (.lit 4096))] false)],
 [((.cmp .lss (.bin .and .i64 (.cv .i64 (.var 2)) (.lit 15)) (.lit 5)), false), ((.cmp .lss (.lit 10) (.bin .and .i64 (.cv .i64 (.var 2)) (.lit 15))), false)]⟩
def Ts3 : List Tp := [T3_0, T3_1]
def B3 : ACode := sufC 1 B2
noncomputable def M2_0 : TT (Ex × Fr × SP) := evPre CL 2000 1 B2 T2_0.fr T2_0.sp
noncomputable def M2_1 : TT (Ex × Fr × SP) := evPre CL 2000 1 B2 T2_1.fr T2_1.sp
def T4_0 : Tp := ⟨List.append ([.lost, (.int .u32 (.cv .u32 (.var 0))), (.int .u32 (.cv .u32 (.var 1))), .lost, .lost, .lost, .lost, .lost, .lost, (.bool (.lit true)), (.int .i64 (.bin .and .i64 (.cv .i64 (.var 2)) (.lit 15))), (.int .u32 (.bin .shl .u32 (.bin .or .u32 (.bin .and .u32 (.bin .sub .i64 (.bin .rem .i64 (.bin .add .i64 (.bin .rem .i64 (.cv .i64 (.var 3)) (.lit 64)) (.lit 64)) (.lit 64)) (.lit 8)) (.lit 7)) (.lit 4294967288)) (.lit 1))), (.ptr 2 0)]) (List.replicate 95 .lost),
 objsFrom 212 0 doorL ++ [(.cells [(.bool (.lit false)), (.int .u32 (.lit 0)), (.int .u32 (.lit 0)), (.int .u32 (.lit 0)), (.int .u32 (.lit 0)), (.int .u32 (.lit 0)), (.int .u32 (.lit 0)), (.int .u32 (.lit 0)), (.int .u32 (.lit 0)), (.int .u32 (.lit 0)), (.int .u32 (.lit 0)), (.int .u32 (.lit 16)), (.int .u32 (.lit 0)), (.int .u32 (.cv .u32 (.var 0))), (.int .u32 (.cv .u32 (.var 1))), (.int .u32 (.lit 0)), (.int .u32 (.lit 0)), (.int .u32 (.lit 0)), (.int .u32 (.lit 0)), (.int .u32 (.lit 0)), (.int .u32 (.lit 0)), (.int .u32 (.lit 0)), (.int .u32 (.lit 0)), (.int .u32 (.lit 0)), (.int .u32 (.lit 0)), (.int .u32 (.lit 0)), (.int .u32 (.lit 0)), (.int .u32 (.lit 0)), (.int .u32 (.lit 0)), (.int .u32 (.lit 0)), (.int .u32 (.lit 0)), (.int .u32 (.lit 0)), (.int .u32 (.lit 0)), (.int .u32 (.lit 0)), (.int .u32 (.lit 0)), (.int .u32 (.lit 0)), (.int .u32 (.lit 0)), (.int .u32 (.lit 0)), (.int .u32 (.lit 0)), (.int .u32 (.lit 0)), (.int .u32 (.lit 0)), (.int .u32 (.lit 0)), (.int .u32 (.lit 0)), (.int .u32 (.lit 0)), (.int .i64 (.lit 4096))] false)],
 [((.cmp .lss (.bin .and .i64 (.cv .i64 (.var 2)) (.lit 15)) (.lit 5)), false), ((.cmp .lss (.lit 10) (.bin .and .i64 (.cv .i64 (.var 2)) (.lit 15))), false)]⟩
def T4_1 : Tp := ⟨List.append ([.lost, (.int .u32 (.cv .u32 (.var 0))), (.int .u32 (.cv .u32 (.var 1))), .lost, .lost, .lost, .lost, .lost, .lost, (.bool (.lit true)), (.int .i64 (.bin .and .i64 (.cv .i64 (.var 2)) (.lit 15))), (.int .u32 (.bin .shl .u32 (.bin .and .u32 (.bin .sub .i64 (.bin .rem .i64 (.bin .add .i64 (.bin .rem .i64 (.cv .i64 (.var 3)) (.lit 64)) (.lit 64)) (.lit 64)) (.lit 8)) (.lit 63)) (.lit 1))), (.ptr 2 0)]) (List.replicate 95 .lost),
 objsFrom 212 0 doorL ++ [(.cells [(.bool (.lit false)), (.int .u32 (.lit 0)), (.int .u32 (.lit 0)), (.int .u32 (.lit 0)), (.int .u32 (.lit 0)), (.int .u32 (.lit 0)), (.int .u32 (.lit 0)), (.int .u32 (.lit 0)), (.int .u32 (.lit 0)), (.int .u32 (.lit 0)), (.int .u32 (.lit 0)), (.int .u32 (.lit 16)), (.int .u32 (.lit 0)), (.int .u32 (.cv .u32 (.var 0))), (.int .u32 (.cv .u32 (.var 1))), (.int .u32 (.lit 0)), (.int .u32 (.lit 0)), (.int .u32 (.lit 0)), (.int .u32 (.lit 0)), (.int .u32 (.lit 0)), (.int .u32 (.lit 0)), (.int .u32 (.lit 0)), (.int .u32 (.lit 0)), (.int .u32 (.lit 0)), (.int .u32 (.lit 0)), (.int .u32 (.lit 0)), (.int .u32 (.lit 0)), (.int .u32 (.lit 0)), (.int .u32 (.lit 0)), (.int .u32 (.lit 0)), (.int .u32 (.lit 0)), (.int .u32 (.lit 0)), (.int .u32 (.lit 0)), (.int .u32 (.lit 0)), (.int .u32 (.lit 0)), (.int .u32 (.lit 0)), (.int .u32 (.lit 0)), (.int .u32 (.lit 0)), (.int .u32 (.lit 0)), (.int .u32 (.lit 0)), (.int .u32 (.lit 0)), (.int .u32 (.lit 0)), (.int .u32 (.lit 0)), (.int .u32 (.lit 0)), (.int .i64 (.lit 4096))] false)],
 [((.cmp .lss (.bin .and .i64 (.cv .i64 (.var 2)) (.lit 15)) (.lit 5)), false), ((.cmp .lss (.lit 10) (.bin .and .i64 (.cv .i64 (.var 2)) (.lit 15))), false)]⟩
def Ts4 : List Tp := [T4_0, T4_1]
def B4 : ACode := sufC 1 B3
noncomputable def M3_0 : TT (Ex × Fr × SP) := evPre CL 2000 1 B3 T3_0.fr T3_0.sp
def sk3_0 : Sk := (.node (.node .hole .hole) (.node .hole .hole))
noncomputable def M3_1 : TT (Ex × Fr × SP) := evPre CL 2000 1 B3 T3_1.fr T3_1.sp
def sk3_1 : Sk := (.node (.node .hole .hole) (.node .hole .hole))
noncomputable def MF_0 : TT (Ex × Fr × SP) := evCodeD CL 2000 B4 T4_0.fr T4_0.sp
def skF_0 : Sk := (.node (.node .hole .hole) (.node (.node .hole .hole) (.node (.node .hole .hole) (.node (.node .hole .hole) (.node (.node .hole .hole) (.node (.node .hole .hole) .hole))))))
noncomputable def MF_1 : TT (Ex × Fr × SP) := evCodeD CL 2000 B4 T4_1.fr T4_1.sp
def skF_1 : Sk := (.node (.node .hole .hole) (.node (.node .hole .hole) (.node (.node .hole .hole) (.node (.node .hole .hole) (.node (.node .hole .hole) (.node (.node .hole .hole) .hole))))))
end Go.Proofs.YtlpmhfgcbfjpfaaGreatDoor.hartBranches

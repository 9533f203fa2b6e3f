/- HartReckons: what is reckoned of two registers is as the arithmetic has it. No condition. -/
import Derived.Test.YtlpmhfgcbfjpfaaGreatDoorSHartReckonsc
import Derived.Test.YtlpmhfgcbfjpfaaGreatDoorSyAr
import Derived.Test.YtlpmhfgcbfjpfaaGreatDoorSyFin
import Derived.Test.YtlpmhfgcbfjpfaaGreatDoorSyCut
import Derived.Test.YtlpmhfgcbfjpfaaGreatDoorTie
import Derived.Test.YtlpmhfgcbfjpfaaGreatDoorCards
import Derived.SevenTiedAt
namespace Go.Proofs.YtlpmhfgcbfjpfaaGreatDoor.hartReckons
open Go.Sx Go.ChangeShapes Go.WideShapes Go.ChangeAt Go.RowKit
set_option linter.unusedVariables false
set_option linter.unusedSimpArgs false
set_option maxRecDepth 1000000

theorem own : ownKnob Tryz.prog.godebug = none := by kernel_rfl
def shs : List (Bool × List CK) := [(false, [.int .i64]), (false, [.int .u32]), (false, [.int .u32])]
def pc0 : PC := seeds (allK shs) []
theorem door_sz : doorH.sz = 2 := by kernel_rfl
theorem G_lt' : ∀ g id, G g = some id → id < 2 := fun g id h => by have := G_lt g id h; rwa [door_sz] at this
def B0 : ACode := af4.body
def T0_0 : Tp := ⟨symAs 0 shs ++ List.replicate (af4.ntmps - (symAs 0 shs).length) sundef, objsFrom 212 0 doorL, pc0⟩
def Ts0 : List Tp := [T0_0]
def T1_0 : Tp := ⟨List.append ([(.int .i64 (.cv .i64 (.var 0))), (.int .u32 (.cv .u32 (.var 1))), (.int .u32 (.cv .u32 (.var 2))), .lost, .lost, .lost, .lost, (.bool (.lit true))]) (List.replicate 71 .lost),
 objsFrom 212 0 doorL ++ [],
 []⟩
def Ts1 : List Tp := [T1_0]
def B1 : ACode := sufC 3 B0
noncomputable def M0_0 : TT (Ex × Fr × SP) := evPre CL 2000 3 B0 T0_0.fr T0_0.sp
def T2_0 : Tp := ⟨List.append ([.lost, (.int .u32 (.cv .u32 (.var 0))), (.int .u32 (.cv .u32 (.var 1))), .lost, .lost, .lost, .lost, (.bool (.lit true)), .lost, (.int .i64 (.cv .i64 (.var 2)))]) (List.replicate 69 .lost),
 objsFrom 212 0 doorL ++ [],
 [((.cmp .eql (.cv .i64 (.var 2)) (.lit 38)), false), ((.cmp .eql (.cv .i64 (.var 2)) (.lit 39)), false), ((.cmp .eql (.cv .i64 (.var 2)) (.lit 40)), false), ((.cmp .eql (.cv .i64 (.var 2)) (.lit 41)), false), ((.cmp .eql (.cv .i64 (.var 2)) (.lit 42)), false), ((.cmp .eql (.cv .i64 (.var 2)) (.lit 43)), false), ((.cmp .eql (.cv .i64 (.var 2)) (.lit 44)), false), ((.cmp .eql (.cv .i64 (.var 2)) (.lit 45)), false), ((.cmp .eql (.cv .i64 (.var 2)) (.lit 46)), false), ((.cmp .eql (.cv .i64 (.var 2)) (.lit 47)), false), ((.cmp .eql (.cv .i64 (.var 2)) (.lit 48)), false), ((.cmp .eql (.cv .i64 (.var 2)) (.lit 49)), false), ((.cmp .eql (.cv .i64 (.var 2)) (.lit 50)), false), ((.cmp .lss (.cv .i64 (.var 2)) (.lit 28)), false), ((.cmp .lss (.lit 58) (.cv .i64 (.var 2))), false)]⟩
def Ts2 : List Tp := [T2_0]
def B2 : ACode := sufC 2 B1
noncomputable def M1_0 : TT (Ex × Fr × SP) := evPre CL 2000 2 B1 T1_0.fr T1_0.sp
def sk1_0 : Sk := (.node .hole (.node .hole (.node .hole (.node .hole (.node .hole (.node .hole (.node .hole (.node .hole (.node .hole (.node .hole (.node .hole (.node .hole (.node .hole (.node .hole (.node .hole .hole)))))))))))))))
def T3_0 : Tp := ⟨List.append ([.lost, (.int .u32 (.cv .u32 (.var 0))), (.int .u32 (.cv .u32 (.var 1))), .lost, .lost, .lost, .lost, (.bool (.lit true)), .lost, (.int .i64 (.cv .i64 (.var 2))), (.ptr 2 0)]) (List.replicate 68 .lost),
 objsFrom 212 0 doorL ++ [(.cells [(.bool (.lit false)), (.int .u32 (.lit 0)), (.int .u32 (.lit 0)), (.int .u32 (.lit 0)), (.int .u32 (.lit 0)), (.int .u32 (.lit 0)), (.int .u32 (.lit 0)), (.int .u32 (.lit 0)), (.int .u32 (.lit 0)), (.int .u32 (.lit 0)), (.int .u32 (.lit 0)), (.int .u32 (.lit 0)), (.int .u32 (.lit 0)), (.int .u32 (.lit 0)), (.int .u32 (.lit 0)), (.int .u32 (.lit 0)), (.int .u32 (.lit 0)), (.int .u32 (.lit 0)), (.int .u32 (.lit 0)), (.int .u32 (.lit 0)), (.int .u32 (.lit 0)), (.int .u32 (.lit 0)), (.int .u32 (.lit 0)), (.int .u32 (.lit 0)), (.int .u32 (.lit 0)), (.int .u32 (.lit 0)), (.int .u32 (.lit 0)), (.int .u32 (.lit 0)), (.int .u32 (.lit 0)), (.int .u32 (.lit 0)), (.int .u32 (.lit 0)), (.int .u32 (.lit 0)), (.int .u32 (.lit 0)), (.int .u32 (.lit 0)), (.int .u32 (.lit 0)), (.int .u32 (.lit 0)), (.int .u32 (.lit 0)), (.int .u32 (.lit 0)), (.int .u32 (.lit 0)), (.int .u32 (.lit 0)), (.int .u32 (.lit 0)), (.int .u32 (.lit 0)), (.int .u32 (.lit 0)), (.int .u32 (.lit 0)), (.int .i64 (.lit 4096))] false)],
 [((.cmp .eql (.cv .i64 (.var 2)) (.lit 38)), false), ((.cmp .eql (.cv .i64 (.var 2)) (.lit 39)), false), ((.cmp .eql (.cv .i64 (.var 2)) (.lit 40)), false), ((.cmp .eql (.cv .i64 (.var 2)) (.lit 41)), false), ((.cmp .eql (.cv .i64 (.var 2)) (.lit 42)), false), ((.cmp .eql (.cv .i64 (.var 2)) (.lit 43)), false), ((.cmp .eql (.cv .i64 (.var 2)) (.lit 44)), false), ((.cmp .eql (.cv .i64 (.var 2)) (.lit 45)), false), ((.cmp .eql (.cv .i64 (.var 2)) (.lit 46)), false), ((.cmp .eql (.cv .i64 (.var 2)) (.lit 47)), false), ((.cmp .eql (.cv .i64 (.var 2)) (.lit 48)), false), ((.cmp .eql (.cv .i64 (.var 2)) (.lit 49)), false), ((.cmp .eql (.cv .i64 (.var 2)) (.lit 50)), false), ((.cmp .lss (.cv .i64 (.var 2)) (.lit 28)), false), ((.cmp .lss (.lit 58) (.cv .i64 (.var 2))), false)]⟩
def Ts3 : List Tp := [T3_0]
def B3 : ACode := sufC 1 B2
noncomputable def M2_0 : TT (Ex × Fr × SP) := evPre CL 2000 1 B2 T2_0.fr T2_0.sp
def T4_0 : Tp := ⟨List.append ([.lost, (.int .u32 (.cv .u32 (.var 0))), (.int .u32 (.cv .u32 (.var 1))), .lost, .lost, .lost, .lost, (.bool (.lit true)), .lost, (.int .i64 (.cv .i64 (.var 2))), (.ptr 2 0)]) (List.replicate 68 .lost),
 objsFrom 212 0 doorL ++ [(.cells [(.bool (.lit false)), (.int .u32 (.lit 0)), (.int .u32 (.lit 0)), (.int .u32 (.lit 0)), (.int .u32 (.lit 0)), (.int .u32 (.lit 0)), (.int .u32 (.lit 0)), (.int .u32 (.lit 0)), (.int .u32 (.lit 0)), (.int .u32 (.lit 0)), (.int .u32 (.lit 0)), (.int .u32 (.lit 16)), (.int .u32 (.lit 0)), (.int .u32 (.cv .u32 (.var 0))), (.int .u32 (.cv .u32 (.var 1))), (.int .u32 (.lit 0)), (.int .u32 (.lit 0)), (.int .u32 (.lit 0)), (.int .u32 (.lit 0)), (.int .u32 (.lit 0)), (.int .u32 (.lit 0)), (.int .u32 (.lit 0)), (.int .u32 (.lit 0)), (.int .u32 (.lit 0)), (.int .u32 (.lit 0)), (.int .u32 (.lit 0)), (.int .u32 (.lit 0)), (.int .u32 (.lit 0)), (.int .u32 (.lit 0)), (.int .u32 (.lit 0)), (.int .u32 (.lit 0)), (.int .u32 (.lit 0)), (.int .u32 (.lit 0)), (.int .u32 (.lit 0)), (.int .u32 (.lit 0)), (.int .u32 (.lit 0)), (.int .u32 (.lit 0)), (.int .u32 (.lit 0)), (.int .u32 (.lit 0)), (.int .u32 (.lit 0)), (.int .u32 (.lit 0)), (.int .u32 (.lit 0)), (.int .u32 (.lit 0)), (.int .u32 (.lit 0)), (.int .i64 (.lit 4096))] false)],
 [((.cmp .eql (.cv .i64 (.var 2)) (.lit 38)), false), ((.cmp .eql (.cv .i64 (.var 2)) (.lit 39)), false), ((.cmp .eql (.cv .i64 (.var 2)) (.lit 40)), false), ((.cmp .eql (.cv .i64 (.var 2)) (.lit 41)), false), ((.cmp .eql (.cv .i64 (.var 2)) (.lit 42)), false), ((.cmp .eql (.cv .i64 (.var 2)) (.lit 43)), false), ((.cmp .eql (.cv .i64 (.var 2)) (.lit 44)), false), ((.cmp .eql (.cv .i64 (.var 2)) (.lit 45)), false), ((.cmp .eql (.cv .i64 (.var 2)) (.lit 46)), false), ((.cmp .eql (.cv .i64 (.var 2)) (.lit 47)), false), ((.cmp .eql (.cv .i64 (.var 2)) (.lit 48)), false), ((.cmp .eql (.cv .i64 (.var 2)) (.lit 49)), false), ((.cmp .eql (.cv .i64 (.var 2)) (.lit 50)), false), ((.cmp .lss (.cv .i64 (.var 2)) (.lit 28)), false), ((.cmp .lss (.lit 58) (.cv .i64 (.var 2))), false)]⟩
def Ts4 : List Tp := [T4_0]
def B4 : ACode := sufC 1 B3
noncomputable def M3_0 : TT (Ex × Fr × SP) := evPre CL 2000 1 B3 T3_0.fr T3_0.sp
def sk3_0 : Sk := (.node (.node .hole .hole) (.node .hole .hole))
noncomputable def MF_0 : TT (Ex × Fr × SP) := evCodeD CL 2000 B4 T4_0.fr T4_0.sp
def skF_0 : Sk := (.node .hole (.node .hole (.node .hole (.node .hole (.node .hole (.node .hole (.node .hole (.node .hole (.node .hole (.node .hole (.node .hole (.node .hole (.node .hole (.node .hole (.node (.node .hole .hole) (.node .hole (.node (.node .hole .hole) (.node .hole .hole))))))))))))))))))
end Go.Proofs.YtlpmhfgcbfjpfaaGreatDoor.hartReckons

/- SeqHolds: an Sc is done just if nothing came between that ends the reservation. No condition. -/
import Derived.Test.YtaclekenckkgcaaGreatDoorSSeqHoldsb
import Derived.Test.YtaclekenckkgcaaGreatDoorSyAr
import Derived.Test.YtaclekenckkgcaaGreatDoorSyFin
import Derived.Test.YtaclekenckkgcaaGreatDoorSyCut
import Derived.Test.YtaclekenckkgcaaGreatDoorTie
import Derived.Test.YtaclekenckkgcaaGreatDoorCards
import Derived.SevenTiedAt
namespace Go.Proofs.YtaclekenckkgcaaGreatDoor.seqHolds
open Go.Sx Go.ChangeShapes Go.WideShapes Go.ChangeAt Go.RowKit
set_option linter.unusedVariables false
set_option linter.unusedSimpArgs false
set_option maxRecDepth 1000000

theorem own : ownKnob Tryz.prog.godebug = none := by kernel_rfl
def shs : List (Bool × List CK) := [(false, [.int .i64]), (false, [.int .u32])]
def pc0 : PC := seeds (allK shs) []
theorem door_sz : doorH.sz = 6 := by kernel_rfl
theorem G_lt' : ∀ g id, G g = some id → id < 6 := fun g id h => by have := G_lt g id h; rwa [door_sz] at this
def B0 : ACode := af4.body
def T0_0 : Tp := ⟨symAs 0 shs ++ List.replicate (af4.ntmps - (symAs 0 shs).length) sundef, objsFrom 199 0 doorL, pc0⟩
def Ts0 : List Tp := [T0_0]
def T1_0 : Tp := ⟨List.append ([(.int .i64 (.cv .i64 (.var 0))), (.int .u32 (.cv .u32 (.var 1))), .lost, .lost, .lost, (.bool (.lit true))]) (List.replicate 114 .lost),
 objsFrom 199 0 doorL ++ [],
 []⟩
def Ts1 : List Tp := [T1_0]
def B1 : ACode := sufC 3 B0
noncomputable def M0_0 : TT (Ex × Fr × SP) := evPre CL 2000 3 B0 T0_0.fr T0_0.sp
def T2_0 : Tp := ⟨List.append ([(.int .i64 (.lit 0)), (.int .u32 (.lit 256)), .lost, .lost, .lost, (.bool (.lit true))]) (List.replicate 114 .lost),
 objsFrom 199 0 doorL ++ [],
 []⟩
def T2_1 : Tp := ⟨List.append ([(.int .i64 (.lit 0)), (.int .u32 (.lit 260)), .lost, .lost, .lost, (.bool (.lit true))]) (List.replicate 114 .lost),
 objsFrom 199 0 doorL ++ [],
 []⟩
def T2_2 : Tp := ⟨List.append ([(.int .i64 (.lit 0)), (.int .u32 (.lit 264)), .lost, .lost, .lost, (.bool (.lit true))]) (List.replicate 114 .lost),
 objsFrom 199 0 doorL ++ [],
 []⟩
def T2_3 : Tp := ⟨List.append ([(.int .i64 (.lit 0)), (.int .u32 (.lit 268)), .lost, .lost, .lost, (.bool (.lit true))]) (List.replicate 114 .lost),
 objsFrom 199 0 doorL ++ [],
 []⟩
def T2_4 : Tp := ⟨List.append ([(.int .i64 (.lit 0)), (.int .u32 (.lit 272)), .lost, .lost, .lost, (.bool (.lit true))]) (List.replicate 114 .lost),
 objsFrom 199 0 doorL ++ [],
 []⟩
def T2_5 : Tp := ⟨List.append ([(.int .i64 (.lit 0)), (.int .u32 (.lit 276)), .lost, .lost, .lost, (.bool (.lit true))]) (List.replicate 114 .lost),
 objsFrom 199 0 doorL ++ [],
 []⟩
def T2_6 : Tp := ⟨List.append ([(.int .i64 (.lit 0)), (.int .u32 (.lit 280)), .lost, .lost, .lost, (.bool (.lit true))]) (List.replicate 114 .lost),
 objsFrom 199 0 doorL ++ [],
 []⟩
def T2_7 : Tp := ⟨List.append ([(.int .i64 (.lit 0)), (.int .u32 (.lit 284)), .lost, .lost, .lost, (.bool (.lit true))]) (List.replicate 114 .lost),
 objsFrom 199 0 doorL ++ [],
 []⟩
def T2_8 : Tp := ⟨List.append ([(.int .i64 (.lit 1)), (.int .u32 (.lit 256)), .lost, .lost, .lost, (.bool (.lit true))]) (List.replicate 114 .lost),
 objsFrom 199 0 doorL ++ [],
 []⟩
def T2_9 : Tp := ⟨List.append ([(.int .i64 (.lit 1)), (.int .u32 (.lit 260)), .lost, .lost, .lost, (.bool (.lit true))]) (List.replicate 114 .lost),
 objsFrom 199 0 doorL ++ [],
 []⟩
def T2_10 : Tp := ⟨List.append ([(.int .i64 (.lit 1)), (.int .u32 (.lit 264)), .lost, .lost, .lost, (.bool (.lit true))]) (List.replicate 114 .lost),
 objsFrom 199 0 doorL ++ [],
 []⟩
def T2_11 : Tp := ⟨List.append ([(.int .i64 (.lit 1)), (.int .u32 (.lit 268)), .lost, .lost, .lost, (.bool (.lit true))]) (List.replicate 114 .lost),
 objsFrom 199 0 doorL ++ [],
 []⟩
def T2_12 : Tp := ⟨List.append ([(.int .i64 (.lit 1)), (.int .u32 (.lit 272)), .lost, .lost, .lost, (.bool (.lit true))]) (List.replicate 114 .lost),
 objsFrom 199 0 doorL ++ [],
 []⟩
def T2_13 : Tp := ⟨List.append ([(.int .i64 (.lit 1)), (.int .u32 (.lit 276)), .lost, .lost, .lost, (.bool (.lit true))]) (List.replicate 114 .lost),
 objsFrom 199 0 doorL ++ [],
 []⟩
def T2_14 : Tp := ⟨List.append ([(.int .i64 (.lit 1)), (.int .u32 (.lit 280)), .lost, .lost, .lost, (.bool (.lit true))]) (List.replicate 114 .lost),
 objsFrom 199 0 doorL ++ [],
 []⟩
def T2_15 : Tp := ⟨List.append ([(.int .i64 (.lit 1)), (.int .u32 (.lit 284)), .lost, .lost, .lost, (.bool (.lit true))]) (List.replicate 114 .lost),
 objsFrom 199 0 doorL ++ [],
 []⟩
def T2_16 : Tp := ⟨List.append ([(.int .i64 (.lit 2)), (.int .u32 (.lit 256)), .lost, .lost, .lost, (.bool (.lit true))]) (List.replicate 114 .lost),
 objsFrom 199 0 doorL ++ [],
 []⟩
def T2_17 : Tp := ⟨List.append ([(.int .i64 (.lit 2)), (.int .u32 (.lit 260)), .lost, .lost, .lost, (.bool (.lit true))]) (List.replicate 114 .lost),
 objsFrom 199 0 doorL ++ [],
 []⟩
def T2_18 : Tp := ⟨List.append ([(.int .i64 (.lit 2)), (.int .u32 (.lit 264)), .lost, .lost, .lost, (.bool (.lit true))]) (List.replicate 114 .lost),
 objsFrom 199 0 doorL ++ [],
 []⟩
def T2_19 : Tp := ⟨List.append ([(.int .i64 (.lit 2)), (.int .u32 (.lit 268)), .lost, .lost, .lost, (.bool (.lit true))]) (List.replicate 114 .lost),
 objsFrom 199 0 doorL ++ [],
 []⟩
def T2_20 : Tp := ⟨List.append ([(.int .i64 (.lit 2)), (.int .u32 (.lit 272)), .lost, .lost, .lost, (.bool (.lit true))]) (List.replicate 114 .lost),
 objsFrom 199 0 doorL ++ [],
 []⟩
def T2_21 : Tp := ⟨List.append ([(.int .i64 (.lit 2)), (.int .u32 (.lit 276)), .lost, .lost, .lost, (.bool (.lit true))]) (List.replicate 114 .lost),
 objsFrom 199 0 doorL ++ [],
 []⟩
def T2_22 : Tp := ⟨List.append ([(.int .i64 (.lit 2)), (.int .u32 (.lit 280)), .lost, .lost, .lost, (.bool (.lit true))]) (List.replicate 114 .lost),
 objsFrom 199 0 doorL ++ [],
 []⟩
def T2_23 : Tp := ⟨List.append ([(.int .i64 (.lit 2)), (.int .u32 (.lit 284)), .lost, .lost, .lost, (.bool (.lit true))]) (List.replicate 114 .lost),
 objsFrom 199 0 doorL ++ [],
 []⟩
def T2_24 : Tp := ⟨List.append ([(.int .i64 (.lit 3)), (.int .u32 (.lit 256)), .lost, .lost, .lost, (.bool (.lit true))]) (List.replicate 114 .lost),
 objsFrom 199 0 doorL ++ [],
 []⟩
def T2_25 : Tp := ⟨List.append ([(.int .i64 (.lit 3)), (.int .u32 (.lit 260)), .lost, .lost, .lost, (.bool (.lit true))]) (List.replicate 114 .lost),
 objsFrom 199 0 doorL ++ [],
 []⟩
def T2_26 : Tp := ⟨List.append ([(.int .i64 (.lit 3)), (.int .u32 (.lit 264)), .lost, .lost, .lost, (.bool (.lit true))]) (List.replicate 114 .lost),
 objsFrom 199 0 doorL ++ [],
 []⟩
def T2_27 : Tp := ⟨List.append ([(.int .i64 (.lit 3)), (.int .u32 (.lit 268)), .lost, .lost, .lost, (.bool (.lit true))]) (List.replicate 114 .lost),
 objsFrom 199 0 doorL ++ [],
 []⟩
def T2_28 : Tp := ⟨List.append ([(.int .i64 (.lit 3)), (.int .u32 (.lit 272)), .lost, .lost, .lost, (.bool (.lit true))]) (List.replicate 114 .lost),
 objsFrom 199 0 doorL ++ [],
 []⟩
def T2_29 : Tp := ⟨List.append ([(.int .i64 (.lit 3)), (.int .u32 (.lit 276)), .lost, .lost, .lost, (.bool (.lit true))]) (List.replicate 114 .lost),
 objsFrom 199 0 doorL ++ [],
 []⟩
def T2_30 : Tp := ⟨List.append ([(.int .i64 (.lit 3)), (.int .u32 (.lit 280)), .lost, .lost, .lost, (.bool (.lit true))]) (List.replicate 114 .lost),
 objsFrom 199 0 doorL ++ [],
 []⟩
def T2_31 : Tp := ⟨List.append ([(.int .i64 (.lit 3)), (.int .u32 (.lit 284)), .lost, .lost, .lost, (.bool (.lit true))]) (List.replicate 114 .lost),
 objsFrom 199 0 doorL ++ [],
 []⟩
def T2_32 : Tp := ⟨List.append ([(.int .i64 (.lit 4)), (.int .u32 (.lit 256)), .lost, .lost, .lost, (.bool (.lit true))]) (List.replicate 114 .lost),
 objsFrom 199 0 doorL ++ [],
 []⟩
def T2_33 : Tp := ⟨List.append ([(.int .i64 (.lit 4)), (.int .u32 (.lit 260)), .lost, .lost, .lost, (.bool (.lit true))]) (List.replicate 114 .lost),
 objsFrom 199 0 doorL ++ [],
 []⟩
def T2_34 : Tp := ⟨List.append ([(.int .i64 (.lit 4)), (.int .u32 (.lit 264)), .lost, .lost, .lost, (.bool (.lit true))]) (List.replicate 114 .lost),
 objsFrom 199 0 doorL ++ [],
 []⟩
def T2_35 : Tp := ⟨List.append ([(.int .i64 (.lit 4)), (.int .u32 (.lit 268)), .lost, .lost, .lost, (.bool (.lit true))]) (List.replicate 114 .lost),
 objsFrom 199 0 doorL ++ [],
 []⟩
def T2_36 : Tp := ⟨List.append ([(.int .i64 (.lit 4)), (.int .u32 (.lit 272)), .lost, .lost, .lost, (.bool (.lit true))]) (List.replicate 114 .lost),
 objsFrom 199 0 doorL ++ [],
 []⟩
def T2_37 : Tp := ⟨List.append ([(.int .i64 (.lit 4)), (.int .u32 (.lit 276)), .lost, .lost, .lost, (.bool (.lit true))]) (List.replicate 114 .lost),
 objsFrom 199 0 doorL ++ [],
 []⟩
def T2_38 : Tp := ⟨List.append ([(.int .i64 (.lit 4)), (.int .u32 (.lit 280)), .lost, .lost, .lost, (.bool (.lit true))]) (List.replicate 114 .lost),
 objsFrom 199 0 doorL ++ [],
 []⟩
def T2_39 : Tp := ⟨List.append ([(.int .i64 (.lit 4)), (.int .u32 (.lit 284)), .lost, .lost, .lost, (.bool (.lit true))]) (List.replicate 114 .lost),
 objsFrom 199 0 doorL ++ [],
 []⟩
def T2_40 : Tp := ⟨List.append ([(.int .i64 (.lit 5)), (.int .u32 (.lit 256)), .lost, .lost, .lost, (.bool (.lit true))]) (List.replicate 114 .lost),
 objsFrom 199 0 doorL ++ [],
 []⟩
def T2_41 : Tp := ⟨List.append ([(.int .i64 (.lit 5)), (.int .u32 (.lit 260)), .lost, .lost, .lost, (.bool (.lit true))]) (List.replicate 114 .lost),
 objsFrom 199 0 doorL ++ [],
 []⟩
def T2_42 : Tp := ⟨List.append ([(.int .i64 (.lit 5)), (.int .u32 (.lit 264)), .lost, .lost, .lost, (.bool (.lit true))]) (List.replicate 114 .lost),
 objsFrom 199 0 doorL ++ [],
 []⟩
def T2_43 : Tp := ⟨List.append ([(.int .i64 (.lit 5)), (.int .u32 (.lit 268)), .lost, .lost, .lost, (.bool (.lit true))]) (List.replicate 114 .lost),
 objsFrom 199 0 doorL ++ [],
 []⟩
def T2_44 : Tp := ⟨List.append ([(.int .i64 (.lit 5)), (.int .u32 (.lit 272)), .lost, .lost, .lost, (.bool (.lit true))]) (List.replicate 114 .lost),
 objsFrom 199 0 doorL ++ [],
 []⟩
def T2_45 : Tp := ⟨List.append ([(.int .i64 (.lit 5)), (.int .u32 (.lit 276)), .lost, .lost, .lost, (.bool (.lit true))]) (List.replicate 114 .lost),
 objsFrom 199 0 doorL ++ [],
 []⟩
def T2_46 : Tp := ⟨List.append ([(.int .i64 (.lit 5)), (.int .u32 (.lit 280)), .lost, .lost, .lost, (.bool (.lit true))]) (List.replicate 114 .lost),
 objsFrom 199 0 doorL ++ [],
 []⟩
def T2_47 : Tp := ⟨List.append ([(.int .i64 (.lit 5)), (.int .u32 (.lit 284)), .lost, .lost, .lost, (.bool (.lit true))]) (List.replicate 114 .lost),
 objsFrom 199 0 doorL ++ [],
 []⟩
def Ts2 : List Tp := [T2_0, T2_1, T2_2, T2_3, T2_4, T2_5, T2_6, T2_7, T2_8, T2_9, T2_10, T2_11, T2_12, T2_13, T2_14, T2_15, T2_16, T2_17, T2_18, T2_19, T2_20, T2_21, T2_22, T2_23, T2_24, T2_25, T2_26, T2_27, T2_28, T2_29, T2_30, T2_31, T2_32, T2_33, T2_34, T2_35, T2_36, T2_37, T2_38, T2_39, T2_40, T2_41, T2_42, T2_43, T2_44, T2_45, T2_46, T2_47]
def B2 : ACode := sufC 2 B1
noncomputable def M1_0 : TT (Ex × Fr × SP) := evPreF CL 2000 2 [(0, 6, 0), (22, 8, 0)] B1 T1_0.fr T1_0.sp
def sk1_0 : Sk := (.node (.node .hole (.node .hole (.node .hole (.node .hole (.node .hole (.node .hole (.node .hole (.node .hole .all)))))))) (.node (.node .hole (.node .hole (.node .hole (.node .hole (.node .hole (.node .hole (.node .hole (.node .hole .all)))))))) (.node (.node .hole (.node .hole (.node .hole (.node .hole (.node .hole (.node .hole (.node .hole (.node .hole .all)))))))) (.node (.node .hole (.node .hole (.node .hole (.node .hole (.node .hole (.node .hole (.node .hole (.node .hole .all)))))))) (.node (.node .hole (.node .hole (.node .hole (.node .hole (.node .hole (.node .hole (.node .hole (.node .hole .all)))))))) (.node (.node .hole (.node .hole (.node .hole (.node .hole (.node .hole (.node .hole (.node .hole (.node .hole .all)))))))) .all))))))
noncomputable def MF_0 : TT (Ex × Fr × SP) := evCodeD CL 2000 B2 T2_0.fr T2_0.sp
noncomputable def MF_1 : TT (Ex × Fr × SP) := evCodeD CL 2000 B2 T2_1.fr T2_1.sp
noncomputable def MF_2 : TT (Ex × Fr × SP) := evCodeD CL 2000 B2 T2_2.fr T2_2.sp
noncomputable def MF_3 : TT (Ex × Fr × SP) := evCodeD CL 2000 B2 T2_3.fr T2_3.sp
noncomputable def MF_4 : TT (Ex × Fr × SP) := evCodeD CL 2000 B2 T2_4.fr T2_4.sp
noncomputable def MF_5 : TT (Ex × Fr × SP) := evCodeD CL 2000 B2 T2_5.fr T2_5.sp
noncomputable def MF_6 : TT (Ex × Fr × SP) := evCodeD CL 2000 B2 T2_6.fr T2_6.sp
noncomputable def MF_7 : TT (Ex × Fr × SP) := evCodeD CL 2000 B2 T2_7.fr T2_7.sp
noncomputable def MF_8 : TT (Ex × Fr × SP) := evCodeD CL 2000 B2 T2_8.fr T2_8.sp
noncomputable def MF_9 : TT (Ex × Fr × SP) := evCodeD CL 2000 B2 T2_9.fr T2_9.sp
noncomputable def MF_10 : TT (Ex × Fr × SP) := evCodeD CL 2000 B2 T2_10.fr T2_10.sp
noncomputable def MF_11 : TT (Ex × Fr × SP) := evCodeD CL 2000 B2 T2_11.fr T2_11.sp
noncomputable def MF_12 : TT (Ex × Fr × SP) := evCodeD CL 2000 B2 T2_12.fr T2_12.sp
noncomputable def MF_13 : TT (Ex × Fr × SP) := evCodeD CL 2000 B2 T2_13.fr T2_13.sp
noncomputable def MF_14 : TT (Ex × Fr × SP) := evCodeD CL 2000 B2 T2_14.fr T2_14.sp
noncomputable def MF_15 : TT (Ex × Fr × SP) := evCodeD CL 2000 B2 T2_15.fr T2_15.sp
noncomputable def MF_16 : TT (Ex × Fr × SP) := evCodeD CL 2000 B2 T2_16.fr T2_16.sp
noncomputable def MF_17 : TT (Ex × Fr × SP) := evCodeD CL 2000 B2 T2_17.fr T2_17.sp
noncomputable def MF_18 : TT (Ex × Fr × SP) := evCodeD CL 2000 B2 T2_18.fr T2_18.sp
noncomputable def MF_19 : TT (Ex × Fr × SP) := evCodeD CL 2000 B2 T2_19.fr T2_19.sp
noncomputable def MF_20 : TT (Ex × Fr × SP) := evCodeD CL 2000 B2 T2_20.fr T2_20.sp
noncomputable def MF_21 : TT (Ex × Fr × SP) := evCodeD CL 2000 B2 T2_21.fr T2_21.sp
noncomputable def MF_22 : TT (Ex × Fr × SP) := evCodeD CL 2000 B2 T2_22.fr T2_22.sp
noncomputable def MF_23 : TT (Ex × Fr × SP) := evCodeD CL 2000 B2 T2_23.fr T2_23.sp
noncomputable def MF_24 : TT (Ex × Fr × SP) := evCodeD CL 2000 B2 T2_24.fr T2_24.sp
noncomputable def MF_25 : TT (Ex × Fr × SP) := evCodeD CL 2000 B2 T2_25.fr T2_25.sp
noncomputable def MF_26 : TT (Ex × Fr × SP) := evCodeD CL 2000 B2 T2_26.fr T2_26.sp
noncomputable def MF_27 : TT (Ex × Fr × SP) := evCodeD CL 2000 B2 T2_27.fr T2_27.sp
noncomputable def MF_28 : TT (Ex × Fr × SP) := evCodeD CL 2000 B2 T2_28.fr T2_28.sp
noncomputable def MF_29 : TT (Ex × Fr × SP) := evCodeD CL 2000 B2 T2_29.fr T2_29.sp
noncomputable def MF_30 : TT (Ex × Fr × SP) := evCodeD CL 2000 B2 T2_30.fr T2_30.sp
noncomputable def MF_31 : TT (Ex × Fr × SP) := evCodeD CL 2000 B2 T2_31.fr T2_31.sp
noncomputable def MF_32 : TT (Ex × Fr × SP) := evCodeD CL 2000 B2 T2_32.fr T2_32.sp
noncomputable def MF_33 : TT (Ex × Fr × SP) := evCodeD CL 2000 B2 T2_33.fr T2_33.sp
noncomputable def MF_34 : TT (Ex × Fr × SP) := evCodeD CL 2000 B2 T2_34.fr T2_34.sp
noncomputable def MF_35 : TT (Ex × Fr × SP) := evCodeD CL 2000 B2 T2_35.fr T2_35.sp
noncomputable def MF_36 : TT (Ex × Fr × SP) := evCodeD CL 2000 B2 T2_36.fr T2_36.sp
noncomputable def MF_37 : TT (Ex × Fr × SP) := evCodeD CL 2000 B2 T2_37.fr T2_37.sp
noncomputable def MF_38 : TT (Ex × Fr × SP) := evCodeD CL 2000 B2 T2_38.fr T2_38.sp
noncomputable def MF_39 : TT (Ex × Fr × SP) := evCodeD CL 2000 B2 T2_39.fr T2_39.sp
noncomputable def MF_40 : TT (Ex × Fr × SP) := evCodeD CL 2000 B2 T2_40.fr T2_40.sp
noncomputable def MF_41 : TT (Ex × Fr × SP) := evCodeD CL 2000 B2 T2_41.fr T2_41.sp
noncomputable def MF_42 : TT (Ex × Fr × SP) := evCodeD CL 2000 B2 T2_42.fr T2_42.sp
noncomputable def MF_43 : TT (Ex × Fr × SP) := evCodeD CL 2000 B2 T2_43.fr T2_43.sp
noncomputable def MF_44 : TT (Ex × Fr × SP) := evCodeD CL 2000 B2 T2_44.fr T2_44.sp
noncomputable def MF_45 : TT (Ex × Fr × SP) := evCodeD CL 2000 B2 T2_45.fr T2_45.sp
noncomputable def MF_46 : TT (Ex × Fr × SP) := evCodeD CL 2000 B2 T2_46.fr T2_46.sp
noncomputable def MF_47 : TT (Ex × Fr × SP) := evCodeD CL 2000 B2 T2_47.fr T2_47.sp
end Go.Proofs.YtaclekenckkgcaaGreatDoor.seqHolds

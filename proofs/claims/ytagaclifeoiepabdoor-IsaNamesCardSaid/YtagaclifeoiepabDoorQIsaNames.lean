/- IsaNames: names, kinds and used fields are those of the table. No condition. -/
import Derived.Test.YtagaclifeoiepabDoorSIsaNamesa
import Derived.Test.YtagaclifeoiepabDoorSyAr
import Derived.Test.YtagaclifeoiepabDoorSyFin
import Derived.Test.YtagaclifeoiepabDoorSyCut
import Derived.Test.YtagaclifeoiepabDoorTie
import Derived.Test.YtagaclifeoiepabDoorCards
import Derived.SevenTiedAt
namespace Go.Proofs.YtagaclifeoiepabDoor.isaNames
open Go.Sx Go.ChangeShapes Go.WideShapes Go.ChangeAt Go.RowKit
set_option linter.unusedVariables false
set_option linter.unusedSimpArgs false
set_option maxRecDepth 1000000

theorem own : ownKnob Tryd.prog.godebug = none := by kernel_rfl
def shs : List (Bool × List CK) := [(false, [.int .i64]), (false, [.str])]
def pc0 : PC := seeds (allK shs) []
theorem door_sz : doorH.sz = 22 := by kernel_rfl
theorem G_lt' : ∀ g id, G g = some id → id < 22 := fun g id h => by have := G_lt g id h; rwa [door_sz] at this
def B0 : ACode := af6.body
def T0_0 : Tp := ⟨symAs 0 shs ++ List.replicate (af6.ntmps - (symAs 0 shs).length) sundef, objsFrom 104 0 doorL, pc0⟩
def Ts0 : List Tp := [T0_0]
def T1_0 : Tp := ⟨List.append ([(.int .i64 (.cv .i64 (.var 0))), (.strv (.var 1)), .lost, .lost, .lost, (.bool (.lit true))]) (List.replicate 98 .lost),
 objsFrom 104 0 doorL ++ [],
 []⟩
def Ts1 : List Tp := [T1_0]
def B1 : ACode := sufC 3 B0
noncomputable def M0_0 : TT (Ex × Fr × SP) := evPre CL 2000 3 B0 T0_0.fr T0_0.sp
def T2_0 : Tp := ⟨List.append ([(.int .i64 (.cv .i64 (.var 0))), (.strv (.var 1)), .lost, .lost, .lost, (.bool (.lit true)), .lost, (.bool (.lit false))]) (List.replicate 96 .lost),
 objsFrom 104 0 doorL ++ [],
 []⟩
def T2_1 : Tp := ⟨List.append ([(.int .i64 (.cv .i64 (.var 0))), (.strv (.var 1)), .lost, .lost, .lost, (.bool (.lit true)), .lost, (.bool (.lit true))]) (List.replicate 96 .lost),
 objsFrom 104 0 doorL ++ [],
 [((.cmp .lss (.cv .i64 (.var 0)) (.lit 1)), false), ((.cmp .lss (.lit 69) (.cv .i64 (.var 0))), false)]⟩
def Ts2 : List Tp := [T2_0, T2_1]
def B2 : ACode := sufC 3 B1
noncomputable def M1_0 : TT (Ex × Fr × SP) := evPre CL 2000 3 B1 T1_0.fr T1_0.sp
def sk1_0 : Sk := (.node .hole (.node .hole (.node .hole (.node .hole (.node .hole (.node .hole (.node .hole (.node .hole (.node .hole (.node .hole (.node .hole (.node .hole (.node .hole (.node .hole (.node .hole (.node .hole (.node .hole (.node .hole (.node .hole (.node .hole (.node .hole (.node .hole (.node .hole (.node .hole (.node .hole (.node .hole (.node .hole (.node .hole (.node .hole (.node .hole (.node .hole (.node .hole (.node .hole (.node .hole (.node .hole (.node .hole (.node .hole (.node .hole (.node .hole (.node .hole (.node .hole (.node .hole (.node .hole (.node .hole (.node .hole (.node .hole (.node .hole (.node .hole (.node .hole (.node .hole (.node .hole (.node .hole (.node .hole (.node .hole (.node .hole (.node .hole (.node .hole (.node .hole (.node .hole (.node .hole (.node .hole (.node .hole (.node .hole (.node .hole .hole))))))))))))))))))))))))))))))))))))))))))))))))))))))))))))))))
def T3_0 : Tp := ⟨List.append ([(.int .i64 (.cv .i64 (.var 0))), (.strv (.var 1)), .lost, .lost, .lost, (.bool (.lit true)), .lost, (.bool (.lit false)), .lost, .lost, .lost, .lost, (.int .i64 (.lit 1))]) (List.replicate 91 .lost),
 objsFrom 104 0 doorL ++ [],
 [((.cmp .eql (.var 1) (.lit 7031629)), true)]⟩
def T3_1 : Tp := ⟨List.append ([(.int .i64 (.cv .i64 (.var 0))), (.strv (.var 1)), .lost, .lost, .lost, (.bool (.lit true)), .lost, (.bool (.lit false)), .lost, .lost, .lost, .lost, (.int .i64 (.lit 2))]) (List.replicate 91 .lost),
 objsFrom 104 0 doorL ++ [],
 [((.cmp .eql (.var 1) (.lit 438172200727)), true)]⟩
def T3_2 : Tp := ⟨List.append ([(.int .i64 (.cv .i64 (.var 0))), (.strv (.var 1)), .lost, .lost, .lost, (.bool (.lit true)), .lost, (.bool (.lit false)), .lost, .lost, .lost, .lost, (.int .i64 (.lit 3))]) (List.replicate 91 .lost),
 objsFrom 104 0 doorL ++ [],
 [((.cmp .eql (.var 1) (.lit 7224634)), true)]⟩
def T3_3 : Tp := ⟨List.append ([(.int .i64 (.cv .i64 (.var 0))), (.strv (.var 1)), .lost, .lost, .lost, (.bool (.lit true)), .lost, (.bool (.lit false)), .lost, .lost, .lost, .lost, (.int .i64 (.lit 4))]) (List.replicate 91 .lost),
 objsFrom 104 0 doorL ++ [],
 [((.cmp .eql (.var 1) (.lit 1959302829)), true)]⟩
def T3_4 : Tp := ⟨List.append ([(.int .i64 (.cv .i64 (.var 0))), (.strv (.var 1)), .lost, .lost, .lost, (.bool (.lit true)), .lost, (.bool (.lit false)), .lost, .lost, .lost, .lost, (.int .i64 (.lit 5))]) (List.replicate 91 .lost),
 objsFrom 104 0 doorL ++ [],
 [((.cmp .eql (.var 1) (.lit 7555899)), true)]⟩
def T3_5 : Tp := ⟨List.append ([(.int .i64 (.cv .i64 (.var 0))), (.strv (.var 1)), .lost, .lost, .lost, (.bool (.lit true)), .lost, (.bool (.lit false)), .lost, .lost, .lost, .lost, (.int .i64 (.lit 6))]) (List.replicate 91 .lost),
 objsFrom 104 0 doorL ++ [],
 [((.cmp .eql (.var 1) (.lit 6765624)), true)]⟩
def T3_6 : Tp := ⟨List.append ([(.int .i64 (.cv .i64 (.var 0))), (.strv (.var 1)), .lost, .lost, .lost, (.bool (.lit true)), .lost, (.bool (.lit false)), .lost, .lost, .lost, .lost, (.int .i64 (.lit 7))]) (List.replicate 91 .lost),
 objsFrom 104 0 doorL ++ [],
 [((.cmp .eql (.var 1) (.lit 7755845)), true)]⟩
def T3_7 : Tp := ⟨List.append ([(.int .i64 (.cv .i64 (.var 0))), (.strv (.var 1)), .lost, .lost, .lost, (.bool (.lit true)), .lost, (.bool (.lit false)), .lost, .lost, .lost, .lost, (.int .i64 (.lit 8))]) (List.replicate 91 .lost),
 objsFrom 104 0 doorL ++ [],
 [((.cmp .eql (.var 1) (.lit 6763825)), true)]⟩
def T3_8 : Tp := ⟨List.append ([(.int .i64 (.cv .i64 (.var 0))), (.strv (.var 1)), .lost, .lost, .lost, (.bool (.lit true)), .lost, (.bool (.lit false)), .lost, .lost, .lost, .lost, (.int .i64 (.lit 9))]) (List.replicate 91 .lost),
 objsFrom 104 0 doorL ++ [],
 [((.cmp .eql (.var 1) (.lit 2010757819)), true)]⟩
def T3_9 : Tp := ⟨List.append ([(.int .i64 (.cv .i64 (.var 0))), (.strv (.var 1)), .lost, .lost, .lost, (.bool (.lit true)), .lost, (.bool (.lit false)), .lost, .lost, .lost, .lost, (.int .i64 (.lit 10))]) (List.replicate 91 .lost),
 objsFrom 104 0 doorL ++ [],
 [((.cmp .eql (.var 1) (.lit 2009765799)), true)]⟩
def T3_10 : Tp := ⟨List.append ([(.int .i64 (.cv .i64 (.var 0))), (.strv (.var 1)), .lost, .lost, .lost, (.bool (.lit true)), .lost, (.bool (.lit false)), .lost, .lost, .lost, .lost, (.int .i64 (.lit 11))]) (List.replicate 91 .lost),
 objsFrom 104 0 doorL ++ [],
 [((.cmp .eql (.var 1) (.lit 25552)), true)]⟩
def T3_11 : Tp := ⟨List.append ([(.int .i64 (.cv .i64 (.var 0))), (.strv (.var 1)), .lost, .lost, .lost, (.bool (.lit true)), .lost, (.bool (.lit false)), .lost, .lost, .lost, .lost, (.int .i64 (.lit 12))]) (List.replicate 91 .lost),
 objsFrom 104 0 doorL ++ [],
 [((.cmp .eql (.var 1) (.lit 27094)), true)]⟩
def T3_12 : Tp := ⟨List.append ([(.int .i64 (.cv .i64 (.var 0))), (.strv (.var 1)), .lost, .lost, .lost, (.bool (.lit true)), .lost, (.bool (.lit false)), .lost, .lost, .lost, .lost, (.int .i64 (.lit 13))]) (List.replicate 91 .lost),
 objsFrom 104 0 doorL ++ [],
 [((.cmp .eql (.var 1) (.lit 30949)), true)]⟩
def T3_13 : Tp := ⟨List.append ([(.int .i64 (.cv .i64 (.var 0))), (.strv (.var 1)), .lost, .lost, .lost, (.bool (.lit true)), .lost, (.bool (.lit false)), .lost, .lost, .lost, .lost, (.int .i64 (.lit 14))]) (List.replicate 91 .lost),
 objsFrom 104 0 doorL ++ [],
 [((.cmp .eql (.var 1) (.lit 7819334)), true)]⟩
def T3_14 : Tp := ⟨List.append ([(.int .i64 (.cv .i64 (.var 0))), (.strv (.var 1)), .lost, .lost, .lost, (.bool (.lit true)), .lost, (.bool (.lit false)), .lost, .lost, .lost, .lost, (.int .i64 (.lit 15))]) (List.replicate 91 .lost),
 objsFrom 104 0 doorL ++ [],
 [((.cmp .eql (.var 1) (.lit 7820876)), true)]⟩
def T3_15 : Tp := ⟨List.append ([(.int .i64 (.cv .i64 (.var 0))), (.strv (.var 1)), .lost, .lost, .lost, (.bool (.lit true)), .lost, (.bool (.lit false)), .lost, .lost, .lost, .lost, (.int .i64 (.lit 16))]) (List.replicate 91 .lost),
 objsFrom 104 0 doorL ++ [],
 [((.cmp .eql (.var 1) (.lit 25559)), true)]⟩
def T3_16 : Tp := ⟨List.append ([(.int .i64 (.cv .i64 (.var 0))), (.strv (.var 1)), .lost, .lost, .lost, (.bool (.lit true)), .lost, (.bool (.lit false)), .lost, .lost, .lost, .lost, (.int .i64 (.lit 17))]) (List.replicate 91 .lost),
 objsFrom 104 0 doorL ++ [],
 [((.cmp .eql (.var 1) (.lit 27101)), true)]⟩
def T3_17 : Tp := ⟨List.append ([(.int .i64 (.cv .i64 (.var 0))), (.strv (.var 1)), .lost, .lost, .lost, (.bool (.lit true)), .lost, (.bool (.lit false)), .lost, .lost, .lost, .lost, (.int .i64 (.lit 18))]) (List.replicate 91 .lost),
 objsFrom 104 0 doorL ++ [],
 [((.cmp .eql (.var 1) (.lit 30956)), true)]⟩
def T3_18 : Tp := ⟨List.append ([(.int .i64 (.cv .i64 (.var 0))), (.strv (.var 1)), .lost, .lost, .lost, (.bool (.lit true)), .lost, (.bool (.lit false)), .lost, .lost, .lost, .lost, (.int .i64 (.lit 19))]) (List.replicate 91 .lost),
 objsFrom 104 0 doorL ++ [],
 [((.cmp .eql (.var 1) (.lit 1806003862)), true)]⟩
def T3_19 : Tp := ⟨List.append ([(.int .i64 (.cv .i64 (.var 0))), (.strv (.var 1)), .lost, .lost, .lost, (.bool (.lit true)), .lost, (.bool (.lit false)), .lost, .lost, .lost, .lost, (.int .i64 (.lit 20))]) (List.replicate 91 .lost),
 objsFrom 104 0 doorL ++ [],
 [((.cmp .eql (.var 1) (.lit 1807062720)), true)]⟩
def T3_20 : Tp := ⟨List.append ([(.int .i64 (.cv .i64 (.var 0))), (.strv (.var 1)), .lost, .lost, .lost, (.bool (.lit true)), .lost, (.bool (.lit false)), .lost, .lost, .lost, .lost, (.int .i64 (.lit 21))]) (List.replicate 91 .lost),
 objsFrom 104 0 doorL ++ [],
 [((.cmp .eql (.var 1) (.lit 516578570038)), true)]⟩
def T3_21 : Tp := ⟨List.append ([(.int .i64 (.cv .i64 (.var 0))), (.strv (.var 1)), .lost, .lost, .lost, (.bool (.lit true)), .lost, (.bool (.lit false)), .lost, .lost, .lost, .lost, (.int .i64 (.lit 22))]) (List.replicate 91 .lost),
 objsFrom 104 0 doorL ++ [],
 [((.cmp .eql (.var 1) (.lit 1806931398)), true)]⟩
def T3_22 : Tp := ⟨List.append ([(.int .i64 (.cv .i64 (.var 0))), (.strv (.var 1)), .lost, .lost, .lost, (.bool (.lit true)), .lost, (.bool (.lit false)), .lost, .lost, .lost, .lost, (.int .i64 (.lit 23))]) (List.replicate 91 .lost),
 objsFrom 104 0 doorL ++ [],
 [((.cmp .eql (.var 1) (.lit 7030861)), true)]⟩
def T3_23 : Tp := ⟨List.append ([(.int .i64 (.cv .i64 (.var 0))), (.strv (.var 1)), .lost, .lost, .lost, (.bool (.lit true)), .lost, (.bool (.lit false)), .lost, .lost, .lost, .lost, (.int .i64 (.lit 24))]) (List.replicate 91 .lost),
 objsFrom 104 0 doorL ++ [],
 [((.cmp .eql (.var 1) (.lit 1806006432)), true)]⟩
def T3_24 : Tp := ⟨List.append ([(.int .i64 (.cv .i64 (.var 0))), (.strv (.var 1)), .lost, .lost, .lost, (.bool (.lit true)), .lost, (.bool (.lit false)), .lost, .lost, .lost, .lost, (.int .i64 (.lit 25))]) (List.replicate 91 .lost),
 objsFrom 104 0 doorL ++ [],
 [((.cmp .eql (.var 1) (.lit 1806534328)), true)]⟩
def T3_25 : Tp := ⟨List.append ([(.int .i64 (.cv .i64 (.var 0))), (.strv (.var 1)), .lost, .lost, .lost, (.bool (.lit true)), .lost, (.bool (.lit false)), .lost, .lost, .lost, .lost, (.int .i64 (.lit 26))]) (List.replicate 91 .lost),
 objsFrom 104 0 doorL ++ [],
 [((.cmp .eql (.var 1) (.lit 1806535870)), true)]⟩
def T3_26 : Tp := ⟨List.append ([(.int .i64 (.cv .i64 (.var 0))), (.strv (.var 1)), .lost, .lost, .lost, (.bool (.lit true)), .lost, (.bool (.lit false)), .lost, .lost, .lost, .lost, (.int .i64 (.lit 27))]) (List.replicate 91 .lost),
 objsFrom 104 0 doorL ++ [],
 [((.cmp .eql (.var 1) (.lit 1805809331)), true)]⟩
def T3_27 : Tp := ⟨List.append ([(.int .i64 (.cv .i64 (.var 0))), (.strv (.var 1)), .lost, .lost, .lost, (.bool (.lit true)), .lost, (.bool (.lit false)), .lost, .lost, .lost, .lost, (.int .i64 (.lit 28))]) (List.replicate 91 .lost),
 objsFrom 104 0 doorL ++ [],
 [((.cmp .eql (.var 1) (.lit 6697004)), true)]⟩
def T3_28 : Tp := ⟨List.append ([(.int .i64 (.cv .i64 (.var 0))), (.strv (.var 1)), .lost, .lost, .lost, (.bool (.lit true)), .lost, (.bool (.lit false)), .lost, .lost, .lost, .lost, (.int .i64 (.lit 29))]) (List.replicate 91 .lost),
 objsFrom 104 0 doorL ++ [],
 [((.cmp .eql (.var 1) (.lit 6569293)), true)]⟩
def T3_29 : Tp := ⟨List.append ([(.int .i64 (.cv .i64 (.var 0))), (.strv (.var 1)), .lost, .lost, .lost, (.bool (.lit true)), .lost, (.bool (.lit false)), .lost, .lost, .lost, .lost, (.int .i64 (.lit 30))]) (List.replicate 91 .lost),
 objsFrom 104 0 doorL ++ [],
 [((.cmp .eql (.var 1) (.lit 7227470)), true)]⟩
def T3_30 : Tp := ⟨List.append ([(.int .i64 (.cv .i64 (.var 0))), (.strv (.var 1)), .lost, .lost, .lost, (.bool (.lit true)), .lost, (.bool (.lit false)), .lost, .lost, .lost, .lost, (.int .i64 (.lit 31))]) (List.replicate 91 .lost),
 objsFrom 104 0 doorL ++ [],
 [((.cmp .eql (.var 1) (.lit 7755862)), true)]⟩
def T3_31 : Tp := ⟨List.append ([(.int .i64 (.cv .i64 (.var 0))), (.strv (.var 1)), .lost, .lost, .lost, (.bool (.lit true)), .lost, (.bool (.lit false)), .lost, .lost, .lost, .lost, (.int .i64 (.lit 32))]) (List.replicate 91 .lost),
 objsFrom 104 0 doorL ++ [],
 [((.cmp .eql (.var 1) (.lit 2010757836)), true)]⟩
def T3_32 : Tp := ⟨List.append ([(.int .i64 (.cv .i64 (.var 0))), (.strv (.var 1)), .lost, .lost, .lost, (.bool (.lit true)), .lost, (.bool (.lit false)), .lost, .lost, .lost, .lost, (.int .i64 (.lit 33))]) (List.replicate 91 .lost),
 objsFrom 104 0 doorL ++ [],
 [((.cmp .eql (.var 1) (.lit 7624540)), true)]⟩
def T3_33 : Tp := ⟨List.append ([(.int .i64 (.cv .i64 (.var 0))), (.strv (.var 1)), .lost, .lost, .lost, (.bool (.lit true)), .lost, (.bool (.lit false)), .lost, .lost, .lost, .lost, (.int .i64 (.lit 34))]) (List.replicate 91 .lost),
 objsFrom 104 0 doorL ++ [],
 [((.cmp .eql (.var 1) (.lit 7229012)), true)]⟩
def T3_34 : Tp := ⟨List.append ([(.int .i64 (.cv .i64 (.var 0))), (.strv (.var 1)), .lost, .lost, .lost, (.bool (.lit true)), .lost, (.bool (.lit false)), .lost, .lost, .lost, .lost, (.int .i64 (.lit 35))]) (List.replicate 91 .lost),
 objsFrom 104 0 doorL ++ [],
 [((.cmp .eql (.var 1) (.lit 6502473)), true)]⟩
def T3_35 : Tp := ⟨List.append ([(.int .i64 (.cv .i64 (.var 0))), (.strv (.var 1)), .lost, .lost, .lost, (.bool (.lit true)), .lost, (.bool (.lit false)), .lost, .lost, .lost, .lost, (.int .i64 (.lit 36))]) (List.replicate 91 .lost),
 objsFrom 104 0 doorL ++ [],
 [((.cmp .eql (.var 1) (.lit 29667)), true)]⟩
def T3_36 : Tp := ⟨List.append ([(.int .i64 (.cv .i64 (.var 0))), (.strv (.var 1)), .lost, .lost, .lost, (.bool (.lit true)), .lost, (.bool (.lit false)), .lost, .lost, .lost, .lost, (.int .i64 (.lit 37))]) (List.replicate 91 .lost),
 objsFrom 104 0 doorL ++ [],
 [((.cmp .eql (.var 1) (.lit 6699574)), true)]⟩
def T3_37 : Tp := ⟨List.append ([(.int .i64 (.cv .i64 (.var 0))), (.strv (.var 1)), .lost, .lost, .lost, (.bool (.lit true)), .lost, (.bool (.lit false)), .lost, .lost, .lost, .lost, (.int .i64 (.lit 38))]) (List.replicate 91 .lost),
 objsFrom 104 0 doorL ++ [],
 [((.cmp .eql (.var 1) (.lit 446676797958)), true)]⟩
def T3_38 : Tp := ⟨List.append ([(.int .i64 (.cv .i64 (.var 0))), (.strv (.var 1)), .lost, .lost, .lost, (.bool (.lit true)), .lost, (.bool (.lit false)), .lost, .lost, .lost, .lost, (.int .i64 (.lit 39))]) (List.replicate 91 .lost),
 objsFrom 104 0 doorL ++ [],
 [((.cmp .eql (.var 1) (.lit 30595642553430431)), true)]⟩
def T3_39 : Tp := ⟨List.append ([(.int .i64 (.cv .i64 (.var 0))), (.strv (.var 1)), .lost, .lost, .lost, (.bool (.lit true)), .lost, (.bool (.lit false)), .lost, .lost, .lost, .lost, (.int .i64 (.lit 40))]) (List.replicate 91 .lost),
 objsFrom 104 0 doorL ++ [],
 [((.cmp .eql (.var 1) (.lit 477366002950)), true)]⟩
def T3_40 : Tp := ⟨List.append ([(.int .i64 (.cv .i64 (.var 0))), (.strv (.var 1)), .lost, .lost, .lost, (.bool (.lit true)), .lost, (.bool (.lit false)), .lost, .lost, .lost, .lost, (.int .i64 (.lit 41))]) (List.replicate 91 .lost),
 objsFrom 104 0 doorL ++ [],
 [((.cmp .eql (.var 1) (.lit 121513989579120)), true)]⟩
def T3_41 : Tp := ⟨List.append ([(.int .i64 (.cv .i64 (.var 0))), (.strv (.var 1)), .lost, .lost, .lost, (.bool (.lit true)), .lost, (.bool (.lit false)), .lost, .lost, .lost, .lost, (.int .i64 (.lit 42))]) (List.replicate 91 .lost),
 objsFrom 104 0 doorL ++ [],
 [((.cmp .eql (.var 1) (.lit 1992794044)), true)]⟩
def T3_42 : Tp := ⟨List.append ([(.int .i64 (.cv .i64 (.var 0))), (.strv (.var 1)), .lost, .lost, .lost, (.bool (.lit true)), .lost, (.bool (.lit false)), .lost, .lost, .lost, .lost, (.int .i64 (.lit 43))]) (List.replicate 91 .lost),
 objsFrom 104 0 doorL ++ [],
 [((.cmp .eql (.var 1) (.lit 7027785)), true)]⟩
def T3_43 : Tp := ⟨List.append ([(.int .i64 (.cv .i64 (.var 0))), (.strv (.var 1)), .lost, .lost, .lost, (.bool (.lit true)), .lost, (.bool (.lit false)), .lost, .lost, .lost, .lost, (.int .i64 (.lit 44))]) (List.replicate 91 .lost),
 objsFrom 104 0 doorL ++ [],
 [((.cmp .eql (.var 1) (.lit 481420745543119587266288)), true)]⟩
def T3_44 : Tp := ⟨List.append ([(.int .i64 (.cv .i64 (.var 0))), (.strv (.var 1)), .lost, .lost, .lost, (.bool (.lit true)), .lost, (.bool (.lit false)), .lost, .lost, .lost, .lost, (.int .i64 (.lit 45))]) (List.replicate 91 .lost),
 objsFrom 104 0 doorL ++ [],
 [((.cmp .eql (.var 1) (.lit 525456151862)), true)]⟩
def T3_45 : Tp := ⟨List.append ([(.int .i64 (.cv .i64 (.var 0))), (.strv (.var 1)), .lost, .lost, .lost, (.bool (.lit true)), .lost, (.bool (.lit false)), .lost, .lost, .lost, .lost, (.int .i64 (.lit 46))]) (List.replicate 91 .lost),
 objsFrom 104 0 doorL ++ [],
 [((.cmp .eql (.var 1) (.lit 508006270258)), true)]⟩
def T3_46 : Tp := ⟨List.append ([(.int .i64 (.cv .i64 (.var 0))), (.strv (.var 1)), .lost, .lost, .lost, (.bool (.lit true)), .lost, (.bool (.lit false)), .lost, .lost, .lost, .lost, (.int .i64 (.lit 47))]) (List.replicate 91 .lost),
 objsFrom 104 0 doorL ++ [],
 [((.cmp .eql (.var 1) (.lit 438206743842)), true)]⟩
def T3_47 : Tp := ⟨List.append ([(.int .i64 (.cv .i64 (.var 0))), (.strv (.var 1)), .lost, .lost, .lost, (.bool (.lit true)), .lost, (.bool (.lit false)), .lost, .lost, .lost, .lost, (.int .i64 (.lit 48))]) (List.replicate 91 .lost),
 objsFrom 104 0 doorL ++ [],
 [((.cmp .eql (.var 1) (.lit 119367874815904)), true)]⟩
def T3_48 : Tp := ⟨List.append ([(.int .i64 (.cv .i64 (.var 0))), (.strv (.var 1)), .lost, .lost, .lost, (.bool (.lit true)), .lost, (.bool (.lit false)), .lost, .lost, .lost, .lost, (.int .i64 (.lit 49))]) (List.replicate 91 .lost),
 objsFrom 104 0 doorL ++ [],
 [((.cmp .eql (.var 1) (.lit 119350424934300)), true)]⟩
def T3_49 : Tp := ⟨List.append ([(.int .i64 (.cv .i64 (.var 0))), (.strv (.var 1)), .lost, .lost, .lost, (.bool (.lit true)), .lost, (.bool (.lit false)), .lost, .lost, .lost, .lost, (.int .i64 (.lit 50))]) (List.replicate 91 .lost),
 objsFrom 104 0 doorL ++ [],
 [((.cmp .eql (.var 1) (.lit 119280625407884)), true)]⟩
def T3_50 : Tp := ⟨List.append ([(.int .i64 (.cv .i64 (.var 0))), (.strv (.var 1)), .lost, .lost, .lost, (.bool (.lit true)), .lost, (.bool (.lit false)), .lost, .lost, .lost, .lost, (.int .i64 (.lit 51))]) (List.replicate 91 .lost),
 objsFrom 104 0 doorL ++ [],
 [((.cmp .eql (.var 1) (.lit 7229777)), true)]⟩
def T3_51 : Tp := ⟨List.append ([(.int .i64 (.cv .i64 (.var 0))), (.strv (.var 1)), .lost, .lost, .lost, (.bool (.lit true)), .lost, (.bool (.lit false)), .lost, .lost, .lost, .lost, (.int .i64 (.lit 52))]) (List.replicate 91 .lost),
 objsFrom 104 0 doorL ++ [],
 [((.cmp .eql (.var 1) (.lit 1789562042)), true)]⟩
def T3_52 : Tp := ⟨List.append ([(.int .i64 (.cv .i64 (.var 0))), (.strv (.var 1)), .lost, .lost, .lost, (.bool (.lit true)), .lost, (.bool (.lit false)), .lost, .lost, .lost, .lost, (.int .i64 (.lit 53))]) (List.replicate 91 .lost),
 objsFrom 104 0 doorL ++ [],
 [((.cmp .eql (.var 1) (.lit 132804113509284)), true)]⟩
def T3_53 : Tp := ⟨List.append ([(.int .i64 (.cv .i64 (.var 0))), (.strv (.var 1)), .lost, .lost, .lost, (.bool (.lit true)), .lost, (.bool (.lit false)), .lost, .lost, .lost, .lost, (.int .i64 (.lit 54))]) (List.replicate 91 .lost),
 objsFrom 104 0 doorL ++ [],
 [((.cmp .eql (.var 1) (.lit 516561069360)), true)]⟩
def T3_54 : Tp := ⟨List.append ([(.int .i64 (.cv .i64 (.var 0))), (.strv (.var 1)), .lost, .lost, .lost, (.bool (.lit true)), .lost, (.bool (.lit false)), .lost, .lost, .lost, .lost, (.int .i64 (.lit 55))]) (List.replicate 91 .lost),
 objsFrom 104 0 doorL ++ [],
 [((.cmp .eql (.var 1) (.lit 7887174)), true)]⟩
def T3_55 : Tp := ⟨List.append ([(.int .i64 (.cv .i64 (.var 0))), (.strv (.var 1)), .lost, .lost, .lost, (.bool (.lit true)), .lost, (.bool (.lit false)), .lost, .lost, .lost, .lost, (.int .i64 (.lit 56))]) (List.replicate 91 .lost),
 objsFrom 104 0 doorL ++ [],
 [((.cmp .eql (.var 1) (.lit 2010889148)), true)]⟩
def T3_56 : Tp := ⟨List.append ([(.int .i64 (.cv .i64 (.var 0))), (.strv (.var 1)), .lost, .lost, .lost, (.bool (.lit true)), .lost, (.bool (.lit false)), .lost, .lost, .lost, .lost, (.int .i64 (.lit 57))]) (List.replicate 91 .lost),
 objsFrom 104 0 doorL ++ [],
 [((.cmp .eql (.var 1) (.lit 7291719)), true)]⟩
def T3_57 : Tp := ⟨List.append ([(.int .i64 (.cv .i64 (.var 0))), (.strv (.var 1)), .lost, .lost, .lost, (.bool (.lit true)), .lost, (.bool (.lit false)), .lost, .lost, .lost, .lost, (.int .i64 (.lit 58))]) (List.replicate 91 .lost),
 objsFrom 104 0 doorL ++ [],
 [((.cmp .eql (.var 1) (.lit 2010293693)), true)]⟩
def T3_58 : Tp := ⟨List.append ([(.int .i64 (.cv .i64 (.var 0))), (.strv (.var 1)), .lost, .lost, .lost, (.bool (.lit true)), .lost, (.bool (.lit false)), .lost, .lost, .lost, .lost, (.int .i64 (.lit 59))]) (List.replicate 91 .lost),
 objsFrom 104 0 doorL ++ [],
 [((.cmp .eql (.var 1) (.lit 2040085127)), true)]⟩
def T3_59 : Tp := ⟨List.append ([(.int .i64 (.cv .i64 (.var 0))), (.strv (.var 1)), .lost, .lost, .lost, (.bool (.lit true)), .lost, (.bool (.lit false)), .lost, .lost, .lost, .lost, (.int .i64 (.lit 60))]) (List.replicate 91 .lost),
 objsFrom 104 0 doorL ++ [],
 [((.cmp .eql (.var 1) (.lit 2040081279)), true)]⟩
def T3_60 : Tp := ⟨List.append ([(.int .i64 (.cv .i64 (.var 0))), (.strv (.var 1)), .lost, .lost, .lost, (.bool (.lit true)), .lost, (.bool (.lit false)), .lost, .lost, .lost, .lost, (.int .i64 (.lit 61))]) (List.replicate 91 .lost),
 objsFrom 104 0 doorL ++ [],
 [((.cmp .eql (.var 1) (.lit 2287250834308015335078)), true)]⟩
def T3_61 : Tp := ⟨List.append ([(.int .i64 (.cv .i64 (.var 0))), (.strv (.var 1)), .lost, .lost, .lost, (.bool (.lit true)), .lost, (.bool (.lit false)), .lost, .lost, .lost, .lost, (.int .i64 (.lit 62))]) (List.replicate 91 .lost),
 objsFrom 104 0 doorL ++ [],
 [((.cmp .eql (.var 1) (.lit 8899795252660495891)), true)]⟩
def T3_62 : Tp := ⟨List.append ([(.int .i64 (.cv .i64 (.var 0))), (.strv (.var 1)), .lost, .lost, .lost, (.bool (.lit true)), .lost, (.bool (.lit false)), .lost, .lost, .lost, .lost, (.int .i64 (.lit 63))]) (List.replicate 91 .lost),
 objsFrom 104 0 doorL ++ [],
 [((.cmp .eql (.var 1) (.lit 8899810997206588739)), true)]⟩
def T3_63 : Tp := ⟨List.append ([(.int .i64 (.cv .i64 (.var 0))), (.strv (.var 1)), .lost, .lost, .lost, (.bool (.lit true)), .lost, (.bool (.lit false)), .lost, .lost, .lost, .lost, (.int .i64 (.lit 64))]) (List.replicate 91 .lost),
 objsFrom 104 0 doorL ++ [],
 [((.cmp .eql (.var 1) (.lit 8899795296285199901)), true)]⟩
def T3_64 : Tp := ⟨List.append ([(.int .i64 (.cv .i64 (.var 0))), (.strv (.var 1)), .lost, .lost, .lost, (.bool (.lit true)), .lost, (.bool (.lit false)), .lost, .lost, .lost, .lost, (.int .i64 (.lit 65))]) (List.replicate 91 .lost),
 objsFrom 104 0 doorL ++ [],
 [((.cmp .eql (.var 1) (.lit 34629614774527946)), true)]⟩
def T3_65 : Tp := ⟨List.append ([(.int .i64 (.cv .i64 (.var 0))), (.strv (.var 1)), .lost, .lost, .lost, (.bool (.lit true)), .lost, (.bool (.lit false)), .lost, .lost, .lost, .lost, (.int .i64 (.lit 66))]) (List.replicate 91 .lost),
 objsFrom 104 0 doorL ++ [],
 [((.cmp .eql (.var 1) (.lit 8899806486225473582)), true)]⟩
def T3_66 : Tp := ⟨List.append ([(.int .i64 (.cv .i64 (.var 0))), (.strv (.var 1)), .lost, .lost, .lost, (.bool (.lit true)), .lost, (.bool (.lit false)), .lost, .lost, .lost, .lost, (.int .i64 (.lit 67))]) (List.replicate 91 .lost),
 objsFrom 104 0 doorL ++ [],
 [((.cmp .eql (.var 1) (.lit 8899817662874640944)), true)]⟩
def T3_67 : Tp := ⟨List.append ([(.int .i64 (.cv .i64 (.var 0))), (.strv (.var 1)), .lost, .lost, .lost, (.bool (.lit true)), .lost, (.bool (.lit false)), .lost, .lost, .lost, .lost, (.int .i64 (.lit 68))]) (List.replicate 91 .lost),
 objsFrom 104 0 doorL ++ [],
 [((.cmp .eql (.var 1) (.lit 2287252289505890089892)), true)]⟩
def T3_68 : Tp := ⟨List.append ([(.int .i64 (.cv .i64 (.var 0))), (.strv (.var 1)), .lost, .lost, .lost, (.bool (.lit true)), .lost, (.bool (.lit false)), .lost, .lost, .lost, .lost, (.int .i64 (.lit 69))]) (List.replicate 91 .lost),
 objsFrom 104 0 doorL ++ [],
 [((.cmp .eql (.var 1) (.lit 2287252300682539257254)), true)]⟩
def T3_69 : Tp := ⟨List.append ([(.int .i64 (.cv .i64 (.var 0))), (.strv (.var 1)), .lost, .lost, .lost, (.bool (.lit true)), .lost, (.bool (.lit false)), .lost, .lost, .lost, .lost, (.int .i64 (.lit 0))]) (List.replicate 91 .lost),
 objsFrom 104 0 doorL ++ [],
 [((.cmp .eql (.var 1) (.lit 2287252300682539257254)), false), ((.cmp .eql (.var 1) (.lit 2287252289505890089892)), false), ((.cmp .eql (.var 1) (.lit 8899817662874640944)), false), ((.cmp .eql (.var 1) (.lit 8899806486225473582)), false), ((.cmp .eql (.var 1) (.lit 34629614774527946)), false), ((.cmp .eql (.var 1) (.lit 8899795296285199901)), false), ((.cmp .eql (.var 1) (.lit 8899810997206588739)), false), ((.cmp .eql (.var 1) (.lit 8899795252660495891)), false), ((.cmp .eql (.var 1) (.lit 2287250834308015335078)), false), ((.cmp .eql (.var 1) (.lit 2040081279)), false), ((.cmp .eql (.var 1) (.lit 2040085127)), false), ((.cmp .eql (.var 1) (.lit 2010293693)), false), ((.cmp .eql (.var 1) (.lit 7291719)), false), ((.cmp .eql (.var 1) (.lit 2010889148)), false), ((.cmp .eql (.var 1) (.lit 7887174)), false), ((.cmp .eql (.var 1) (.lit 516561069360)), false), ((.cmp .eql (.var 1) (.lit 132804113509284)), false), ((.cmp .eql (.var 1) (.lit 1789562042)), false), ((.cmp .eql (.var 1) (.lit 7229777)), false), ((.cmp .eql (.var 1) (.lit 119280625407884)), false), ((.cmp .eql (.var 1) (.lit 119350424934300)), false), ((.cmp .eql (.var 1) (.lit 119367874815904)), false), ((.cmp .eql (.var 1) (.lit 438206743842)), false), ((.cmp .eql (.var 1) (.lit 508006270258)), false), ((.cmp .eql (.var 1) (.lit 525456151862)), false), ((.cmp .eql (.var 1) (.lit 481420745543119587266288)), false), ((.cmp .eql (.var 1) (.lit 7027785)), false), ((.cmp .eql (.var 1) (.lit 1992794044)), false), ((.cmp .eql (.var 1) (.lit 121513989579120)), false), ((.cmp .eql (.var 1) (.lit 477366002950)), false), ((.cmp .eql (.var 1) (.lit 30595642553430431)), false), ((.cmp .eql (.var 1) (.lit 446676797958)), false), ((.cmp .eql (.var 1) (.lit 6699574)), false), ((.cmp .eql (.var 1) (.lit 29667)), false), ((.cmp .eql (.var 1) (.lit 6502473)), false), ((.cmp .eql (.var 1) (.lit 7229012)), false), ((.cmp .eql (.var 1) (.lit 7624540)), false), ((.cmp .eql (.var 1) (.lit 2010757836)), false), ((.cmp .eql (.var 1) (.lit 7755862)), false), ((.cmp .eql (.var 1) (.lit 7227470)), false), ((.cmp .eql (.var 1) (.lit 6569293)), false), ((.cmp .eql (.var 1) (.lit 6697004)), false), ((.cmp .eql (.var 1) (.lit 1805809331)), false), ((.cmp .eql (.var 1) (.lit 1806535870)), false), ((.cmp .eql (.var 1) (.lit 1806534328)), false), ((.cmp .eql (.var 1) (.lit 1806006432)), false), ((.cmp .eql (.var 1) (.lit 7030861)), false), ((.cmp .eql (.var 1) (.lit 1806931398)), false), ((.cmp .eql (.var 1) (.lit 516578570038)), false), ((.cmp .eql (.var 1) (.lit 1807062720)), false), ((.cmp .eql (.var 1) (.lit 1806003862)), false), ((.cmp .eql (.var 1) (.lit 30956)), false), ((.cmp .eql (.var 1) (.lit 27101)), false), ((.cmp .eql (.var 1) (.lit 25559)), false), ((.cmp .eql (.var 1) (.lit 7820876)), false), ((.cmp .eql (.var 1) (.lit 7819334)), false), ((.cmp .eql (.var 1) (.lit 30949)), false), ((.cmp .eql (.var 1) (.lit 27094)), false), ((.cmp .eql (.var 1) (.lit 25552)), false), ((.cmp .eql (.var 1) (.lit 2009765799)), false), ((.cmp .eql (.var 1) (.lit 2010757819)), false), ((.cmp .eql (.var 1) (.lit 6763825)), false), ((.cmp .eql (.var 1) (.lit 7755845)), false), ((.cmp .eql (.var 1) (.lit 6765624)), false), ((.cmp .eql (.var 1) (.lit 7555899)), false), ((.cmp .eql (.var 1) (.lit 1959302829)), false), ((.cmp .eql (.var 1) (.lit 7224634)), false), ((.cmp .eql (.var 1) (.lit 438172200727)), false), ((.cmp .eql (.var 1) (.lit 7031629)), false)]⟩
def T3_70 : Tp := ⟨List.append ([(.int .i64 (.cv .i64 (.var 0))), (.strv (.var 1)), .lost, .lost, .lost, (.bool (.lit true)), .lost, (.bool (.lit true)), .lost, .lost, .lost, .lost, (.int .i64 (.lit 1))]) (List.replicate 91 .lost),
 objsFrom 104 0 doorL ++ [],
 [((.cmp .lss (.cv .i64 (.var 0)) (.lit 1)), false), ((.cmp .lss (.lit 69) (.cv .i64 (.var 0))), false), ((.cmp .eql (.var 1) (.lit 7031629)), true)]⟩
def T3_71 : Tp := ⟨List.append ([(.int .i64 (.cv .i64 (.var 0))), (.strv (.var 1)), .lost, .lost, .lost, (.bool (.lit true)), .lost, (.bool (.lit true)), .lost, .lost, .lost, .lost, (.int .i64 (.lit 2))]) (List.replicate 91 .lost),
 objsFrom 104 0 doorL ++ [],
 [((.cmp .lss (.cv .i64 (.var 0)) (.lit 1)), false), ((.cmp .lss (.lit 69) (.cv .i64 (.var 0))), false), ((.cmp .eql (.var 1) (.lit 438172200727)), true)]⟩
def T3_72 : Tp := ⟨List.append ([(.int .i64 (.cv .i64 (.var 0))), (.strv (.var 1)), .lost, .lost, .lost, (.bool (.lit true)), .lost, (.bool (.lit true)), .lost, .lost, .lost, .lost, (.int .i64 (.lit 3))]) (List.replicate 91 .lost),
 objsFrom 104 0 doorL ++ [],
 [((.cmp .lss (.cv .i64 (.var 0)) (.lit 1)), false), ((.cmp .lss (.lit 69) (.cv .i64 (.var 0))), false), ((.cmp .eql (.var 1) (.lit 7224634)), true)]⟩
def T3_73 : Tp := ⟨List.append ([(.int .i64 (.cv .i64 (.var 0))), (.strv (.var 1)), .lost, .lost, .lost, (.bool (.lit true)), .lost, (.bool (.lit true)), .lost, .lost, .lost, .lost, (.int .i64 (.lit 4))]) (List.replicate 91 .lost),
 objsFrom 104 0 doorL ++ [],
 [((.cmp .lss (.cv .i64 (.var 0)) (.lit 1)), false), ((.cmp .lss (.lit 69) (.cv .i64 (.var 0))), false), ((.cmp .eql (.var 1) (.lit 1959302829)), true)]⟩
def T3_74 : Tp := ⟨List.append ([(.int .i64 (.cv .i64 (.var 0))), (.strv (.var 1)), .lost, .lost, .lost, (.bool (.lit true)), .lost, (.bool (.lit true)), .lost, .lost, .lost, .lost, (.int .i64 (.lit 5))]) (List.replicate 91 .lost),
 objsFrom 104 0 doorL ++ [],
 [((.cmp .lss (.cv .i64 (.var 0)) (.lit 1)), false), ((.cmp .lss (.lit 69) (.cv .i64 (.var 0))), false), ((.cmp .eql (.var 1) (.lit 7555899)), true)]⟩
def T3_75 : Tp := ⟨List.append ([(.int .i64 (.cv .i64 (.var 0))), (.strv (.var 1)), .lost, .lost, .lost, (.bool (.lit true)), .lost, (.bool (.lit true)), .lost, .lost, .lost, .lost, (.int .i64 (.lit 6))]) (List.replicate 91 .lost),
 objsFrom 104 0 doorL ++ [],
 [((.cmp .lss (.cv .i64 (.var 0)) (.lit 1)), false), ((.cmp .lss (.lit 69) (.cv .i64 (.var 0))), false), ((.cmp .eql (.var 1) (.lit 6765624)), true)]⟩
def T3_76 : Tp := ⟨List.append ([(.int .i64 (.cv .i64 (.var 0))), (.strv (.var 1)), .lost, .lost, .lost, (.bool (.lit true)), .lost, (.bool (.lit true)), .lost, .lost, .lost, .lost, (.int .i64 (.lit 7))]) (List.replicate 91 .lost),
 objsFrom 104 0 doorL ++ [],
 [((.cmp .lss (.cv .i64 (.var 0)) (.lit 1)), false), ((.cmp .lss (.lit 69) (.cv .i64 (.var 0))), false), ((.cmp .eql (.var 1) (.lit 7755845)), true)]⟩
def T3_77 : Tp := ⟨List.append ([(.int .i64 (.cv .i64 (.var 0))), (.strv (.var 1)), .lost, .lost, .lost, (.bool (.lit true)), .lost, (.bool (.lit true)), .lost, .lost, .lost, .lost, (.int .i64 (.lit 8))]) (List.replicate 91 .lost),
 objsFrom 104 0 doorL ++ [],
 [((.cmp .lss (.cv .i64 (.var 0)) (.lit 1)), false), ((.cmp .lss (.lit 69) (.cv .i64 (.var 0))), false), ((.cmp .eql (.var 1) (.lit 6763825)), true)]⟩
def T3_78 : Tp := ⟨List.append ([(.int .i64 (.cv .i64 (.var 0))), (.strv (.var 1)), .lost, .lost, .lost, (.bool (.lit true)), .lost, (.bool (.lit true)), .lost, .lost, .lost, .lost, (.int .i64 (.lit 9))]) (List.replicate 91 .lost),
 objsFrom 104 0 doorL ++ [],
 [((.cmp .lss (.cv .i64 (.var 0)) (.lit 1)), false), ((.cmp .lss (.lit 69) (.cv .i64 (.var 0))), false), ((.cmp .eql (.var 1) (.lit 2010757819)), true)]⟩
def T3_79 : Tp := ⟨List.append ([(.int .i64 (.cv .i64 (.var 0))), (.strv (.var 1)), .lost, .lost, .lost, (.bool (.lit true)), .lost, (.bool (.lit true)), .lost, .lost, .lost, .lost, (.int .i64 (.lit 10))]) (List.replicate 91 .lost),
 objsFrom 104 0 doorL ++ [],
 [((.cmp .lss (.cv .i64 (.var 0)) (.lit 1)), false), ((.cmp .lss (.lit 69) (.cv .i64 (.var 0))), false), ((.cmp .eql (.var 1) (.lit 2009765799)), true)]⟩
def T3_80 : Tp := ⟨List.append ([(.int .i64 (.cv .i64 (.var 0))), (.strv (.var 1)), .lost, .lost, .lost, (.bool (.lit true)), .lost, (.bool (.lit true)), .lost, .lost, .lost, .lost, (.int .i64 (.lit 11))]) (List.replicate 91 .lost),
 objsFrom 104 0 doorL ++ [],
 [((.cmp .lss (.cv .i64 (.var 0)) (.lit 1)), false), ((.cmp .lss (.lit 69) (.cv .i64 (.var 0))), false), ((.cmp .eql (.var 1) (.lit 25552)), true)]⟩
def T3_81 : Tp := ⟨List.append ([(.int .i64 (.cv .i64 (.var 0))), (.strv (.var 1)), .lost, .lost, .lost, (.bool (.lit true)), .lost, (.bool (.lit true)), .lost, .lost, .lost, .lost, (.int .i64 (.lit 12))]) (List.replicate 91 .lost),
 objsFrom 104 0 doorL ++ [],
 [((.cmp .lss (.cv .i64 (.var 0)) (.lit 1)), false), ((.cmp .lss (.lit 69) (.cv .i64 (.var 0))), false), ((.cmp .eql (.var 1) (.lit 27094)), true)]⟩
def T3_82 : Tp := ⟨List.append ([(.int .i64 (.cv .i64 (.var 0))), (.strv (.var 1)), .lost, .lost, .lost, (.bool (.lit true)), .lost, (.bool (.lit true)), .lost, .lost, .lost, .lost, (.int .i64 (.lit 13))]) (List.replicate 91 .lost),
 objsFrom 104 0 doorL ++ [],
 [((.cmp .lss (.cv .i64 (.var 0)) (.lit 1)), false), ((.cmp .lss (.lit 69) (.cv .i64 (.var 0))), false), ((.cmp .eql (.var 1) (.lit 30949)), true)]⟩
def T3_83 : Tp := ⟨List.append ([(.int .i64 (.cv .i64 (.var 0))), (.strv (.var 1)), .lost, .lost, .lost, (.bool (.lit true)), .lost, (.bool (.lit true)), .lost, .lost, .lost, .lost, (.int .i64 (.lit 14))]) (List.replicate 91 .lost),
 objsFrom 104 0 doorL ++ [],
 [((.cmp .lss (.cv .i64 (.var 0)) (.lit 1)), false), ((.cmp .lss (.lit 69) (.cv .i64 (.var 0))), false), ((.cmp .eql (.var 1) (.lit 7819334)), true)]⟩
def T3_84 : Tp := ⟨List.append ([(.int .i64 (.cv .i64 (.var 0))), (.strv (.var 1)), .lost, .lost, .lost, (.bool (.lit true)), .lost, (.bool (.lit true)), .lost, .lost, .lost, .lost, (.int .i64 (.lit 15))]) (List.replicate 91 .lost),
 objsFrom 104 0 doorL ++ [],
 [((.cmp .lss (.cv .i64 (.var 0)) (.lit 1)), false), ((.cmp .lss (.lit 69) (.cv .i64 (.var 0))), false), ((.cmp .eql (.var 1) (.lit 7820876)), true)]⟩
def T3_85 : Tp := ⟨List.append ([(.int .i64 (.cv .i64 (.var 0))), (.strv (.var 1)), .lost, .lost, .lost, (.bool (.lit true)), .lost, (.bool (.lit true)), .lost, .lost, .lost, .lost, (.int .i64 (.lit 16))]) (List.replicate 91 .lost),
 objsFrom 104 0 doorL ++ [],
 [((.cmp .lss (.cv .i64 (.var 0)) (.lit 1)), false), ((.cmp .lss (.lit 69) (.cv .i64 (.var 0))), false), ((.cmp .eql (.var 1) (.lit 25559)), true)]⟩
def T3_86 : Tp := ⟨List.append ([(.int .i64 (.cv .i64 (.var 0))), (.strv (.var 1)), .lost, .lost, .lost, (.bool (.lit true)), .lost, (.bool (.lit true)), .lost, .lost, .lost, .lost, (.int .i64 (.lit 17))]) (List.replicate 91 .lost),
 objsFrom 104 0 doorL ++ [],
 [((.cmp .lss (.cv .i64 (.var 0)) (.lit 1)), false), ((.cmp .lss (.lit 69) (.cv .i64 (.var 0))), false), ((.cmp .eql (.var 1) (.lit 27101)), true)]⟩
def T3_87 : Tp := ⟨List.append ([(.int .i64 (.cv .i64 (.var 0))), (.strv (.var 1)), .lost, .lost, .lost, (.bool (.lit true)), .lost, (.bool (.lit true)), .lost, .lost, .lost, .lost, (.int .i64 (.lit 18))]) (List.replicate 91 .lost),
 objsFrom 104 0 doorL ++ [],
 [((.cmp .lss (.cv .i64 (.var 0)) (.lit 1)), false), ((.cmp .lss (.lit 69) (.cv .i64 (.var 0))), false), ((.cmp .eql (.var 1) (.lit 30956)), true)]⟩
def T3_88 : Tp := ⟨List.append ([(.int .i64 (.cv .i64 (.var 0))), (.strv (.var 1)), .lost, .lost, .lost, (.bool (.lit true)), .lost, (.bool (.lit true)), .lost, .lost, .lost, .lost, (.int .i64 (.lit 19))]) (List.replicate 91 .lost),
 objsFrom 104 0 doorL ++ [],
 [((.cmp .lss (.cv .i64 (.var 0)) (.lit 1)), false), ((.cmp .lss (.lit 69) (.cv .i64 (.var 0))), false), ((.cmp .eql (.var 1) (.lit 1806003862)), true)]⟩
def T3_89 : Tp := ⟨List.append ([(.int .i64 (.cv .i64 (.var 0))), (.strv (.var 1)), .lost, .lost, .lost, (.bool (.lit true)), .lost, (.bool (.lit true)), .lost, .lost, .lost, .lost, (.int .i64 (.lit 20))]) (List.replicate 91 .lost),
 objsFrom 104 0 doorL ++ [],
 [((.cmp .lss (.cv .i64 (.var 0)) (.lit 1)), false), ((.cmp .lss (.lit 69) (.cv .i64 (.var 0))), false), ((.cmp .eql (.var 1) (.lit 1807062720)), true)]⟩
def T3_90 : Tp := ⟨List.append ([(.int .i64 (.cv .i64 (.var 0))), (.strv (.var 1)), .lost, .lost, .lost, (.bool (.lit true)), .lost, (.bool (.lit true)), .lost, .lost, .lost, .lost, (.int .i64 (.lit 21))]) (List.replicate 91 .lost),
 objsFrom 104 0 doorL ++ [],
 [((.cmp .lss (.cv .i64 (.var 0)) (.lit 1)), false), ((.cmp .lss (.lit 69) (.cv .i64 (.var 0))), false), ((.cmp .eql (.var 1) (.lit 516578570038)), true)]⟩
def T3_91 : Tp := ⟨List.append ([(.int .i64 (.cv .i64 (.var 0))), (.strv (.var 1)), .lost, .lost, .lost, (.bool (.lit true)), .lost, (.bool (.lit true)), .lost, .lost, .lost, .lost, (.int .i64 (.lit 22))]) (List.replicate 91 .lost),
 objsFrom 104 0 doorL ++ [],
 [((.cmp .lss (.cv .i64 (.var 0)) (.lit 1)), false), ((.cmp .lss (.lit 69) (.cv .i64 (.var 0))), false), ((.cmp .eql (.var 1) (.lit 1806931398)), true)]⟩
def T3_92 : Tp := ⟨List.append ([(.int .i64 (.cv .i64 (.var 0))), (.strv (.var 1)), .lost, .lost, .lost, (.bool (.lit true)), .lost, (.bool (.lit true)), .lost, .lost, .lost, .lost, (.int .i64 (.lit 23))]) (List.replicate 91 .lost),
 objsFrom 104 0 doorL ++ [],
 [((.cmp .lss (.cv .i64 (.var 0)) (.lit 1)), false), ((.cmp .lss (.lit 69) (.cv .i64 (.var 0))), false), ((.cmp .eql (.var 1) (.lit 7030861)), true)]⟩
def T3_93 : Tp := ⟨List.append ([(.int .i64 (.cv .i64 (.var 0))), (.strv (.var 1)), .lost, .lost, .lost, (.bool (.lit true)), .lost, (.bool (.lit true)), .lost, .lost, .lost, .lost, (.int .i64 (.lit 24))]) (List.replicate 91 .lost),
 objsFrom 104 0 doorL ++ [],
 [((.cmp .lss (.cv .i64 (.var 0)) (.lit 1)), false), ((.cmp .lss (.lit 69) (.cv .i64 (.var 0))), false), ((.cmp .eql (.var 1) (.lit 1806006432)), true)]⟩
def T3_94 : Tp := ⟨List.append ([(.int .i64 (.cv .i64 (.var 0))), (.strv (.var 1)), .lost, .lost, .lost, (.bool (.lit true)), .lost, (.bool (.lit true)), .lost, .lost, .lost, .lost, (.int .i64 (.lit 25))]) (List.replicate 91 .lost),
 objsFrom 104 0 doorL ++ [],
 [((.cmp .lss (.cv .i64 (.var 0)) (.lit 1)), false), ((.cmp .lss (.lit 69) (.cv .i64 (.var 0))), false), ((.cmp .eql (.var 1) (.lit 1806534328)), true)]⟩
def T3_95 : Tp := ⟨List.append ([(.int .i64 (.cv .i64 (.var 0))), (.strv (.var 1)), .lost, .lost, .lost, (.bool (.lit true)), .lost, (.bool (.lit true)), .lost, .lost, .lost, .lost, (.int .i64 (.lit 26))]) (List.replicate 91 .lost),
 objsFrom 104 0 doorL ++ [],
 [((.cmp .lss (.cv .i64 (.var 0)) (.lit 1)), false), ((.cmp .lss (.lit 69) (.cv .i64 (.var 0))), false), ((.cmp .eql (.var 1) (.lit 1806535870)), true)]⟩
def T3_96 : Tp := ⟨List.append ([(.int .i64 (.cv .i64 (.var 0))), (.strv (.var 1)), .lost, .lost, .lost, (.bool (.lit true)), .lost, (.bool (.lit true)), .lost, .lost, .lost, .lost, (.int .i64 (.lit 27))]) (List.replicate 91 .lost),
 objsFrom 104 0 doorL ++ [],
 [((.cmp .lss (.cv .i64 (.var 0)) (.lit 1)), false), ((.cmp .lss (.lit 69) (.cv .i64 (.var 0))), false), ((.cmp .eql (.var 1) (.lit 1805809331)), true)]⟩
def T3_97 : Tp := ⟨List.append ([(.int .i64 (.cv .i64 (.var 0))), (.strv (.var 1)), .lost, .lost, .lost, (.bool (.lit true)), .lost, (.bool (.lit true)), .lost, .lost, .lost, .lost, (.int .i64 (.lit 28))]) (List.replicate 91 .lost),
 objsFrom 104 0 doorL ++ [],
 [((.cmp .lss (.cv .i64 (.var 0)) (.lit 1)), false), ((.cmp .lss (.lit 69) (.cv .i64 (.var 0))), false), ((.cmp .eql (.var 1) (.lit 6697004)), true)]⟩
def T3_98 : Tp := ⟨List.append ([(.int .i64 (.cv .i64 (.var 0))), (.strv (.var 1)), .lost, .lost, .lost, (.bool (.lit true)), .lost, (.bool (.lit true)), .lost, .lost, .lost, .lost, (.int .i64 (.lit 29))]) (List.replicate 91 .lost),
 objsFrom 104 0 doorL ++ [],
 [((.cmp .lss (.cv .i64 (.var 0)) (.lit 1)), false), ((.cmp .lss (.lit 69) (.cv .i64 (.var 0))), false), ((.cmp .eql (.var 1) (.lit 6569293)), true)]⟩
def T3_99 : Tp := ⟨List.append ([(.int .i64 (.cv .i64 (.var 0))), (.strv (.var 1)), .lost, .lost, .lost, (.bool (.lit true)), .lost, (.bool (.lit true)), .lost, .lost, .lost, .lost, (.int .i64 (.lit 30))]) (List.replicate 91 .lost),
 objsFrom 104 0 doorL ++ [],
 [((.cmp .lss (.cv .i64 (.var 0)) (.lit 1)), false), ((.cmp .lss (.lit 69) (.cv .i64 (.var 0))), false), ((.cmp .eql (.var 1) (.lit 7227470)), true)]⟩
def T3_100 : Tp := ⟨List.append ([(.int .i64 (.cv .i64 (.var 0))), (.strv (.var 1)), .lost, .lost, .lost, (.bool (.lit true)), .lost, (.bool (.lit true)), .lost, .lost, .lost, .lost, (.int .i64 (.lit 31))]) (List.replicate 91 .lost),
 objsFrom 104 0 doorL ++ [],
 [((.cmp .lss (.cv .i64 (.var 0)) (.lit 1)), false), ((.cmp .lss (.lit 69) (.cv .i64 (.var 0))), false), ((.cmp .eql (.var 1) (.lit 7755862)), true)]⟩
def T3_101 : Tp := ⟨List.append ([(.int .i64 (.cv .i64 (.var 0))), (.strv (.var 1)), .lost, .lost, .lost, (.bool (.lit true)), .lost, (.bool (.lit true)), .lost, .lost, .lost, .lost, (.int .i64 (.lit 32))]) (List.replicate 91 .lost),
 objsFrom 104 0 doorL ++ [],
 [((.cmp .lss (.cv .i64 (.var 0)) (.lit 1)), false), ((.cmp .lss (.lit 69) (.cv .i64 (.var 0))), false), ((.cmp .eql (.var 1) (.lit 2010757836)), true)]⟩
def T3_102 : Tp := ⟨List.append ([(.int .i64 (.cv .i64 (.var 0))), (.strv (.var 1)), .lost, .lost, .lost, (.bool (.lit true)), .lost, (.bool (.lit true)), .lost, .lost, .lost, .lost, (.int .i64 (.lit 33))]) (List.replicate 91 .lost),
 objsFrom 104 0 doorL ++ [],
 [((.cmp .lss (.cv .i64 (.var 0)) (.lit 1)), false), ((.cmp .lss (.lit 69) (.cv .i64 (.var 0))), false), ((.cmp .eql (.var 1) (.lit 7624540)), true)]⟩
def T3_103 : Tp := ⟨List.append ([(.int .i64 (.cv .i64 (.var 0))), (.strv (.var 1)), .lost, .lost, .lost, (.bool (.lit true)), .lost, (.bool (.lit true)), .lost, .lost, .lost, .lost, (.int .i64 (.lit 34))]) (List.replicate 91 .lost),
 objsFrom 104 0 doorL ++ [],
 [((.cmp .lss (.cv .i64 (.var 0)) (.lit 1)), false), ((.cmp .lss (.lit 69) (.cv .i64 (.var 0))), false), ((.cmp .eql (.var 1) (.lit 7229012)), true)]⟩
def T3_104 : Tp := ⟨List.append ([(.int .i64 (.cv .i64 (.var 0))), (.strv (.var 1)), .lost, .lost, .lost, (.bool (.lit true)), .lost, (.bool (.lit true)), .lost, .lost, .lost, .lost, (.int .i64 (.lit 35))]) (List.replicate 91 .lost),
 objsFrom 104 0 doorL ++ [],
 [((.cmp .lss (.cv .i64 (.var 0)) (.lit 1)), false), ((.cmp .lss (.lit 69) (.cv .i64 (.var 0))), false), ((.cmp .eql (.var 1) (.lit 6502473)), true)]⟩
def T3_105 : Tp := ⟨List.append ([(.int .i64 (.cv .i64 (.var 0))), (.strv (.var 1)), .lost, .lost, .lost, (.bool (.lit true)), .lost, (.bool (.lit true)), .lost, .lost, .lost, .lost, (.int .i64 (.lit 36))]) (List.replicate 91 .lost),
 objsFrom 104 0 doorL ++ [],
 [((.cmp .lss (.cv .i64 (.var 0)) (.lit 1)), false), ((.cmp .lss (.lit 69) (.cv .i64 (.var 0))), false), ((.cmp .eql (.var 1) (.lit 29667)), true)]⟩
def T3_106 : Tp := ⟨List.append ([(.int .i64 (.cv .i64 (.var 0))), (.strv (.var 1)), .lost, .lost, .lost, (.bool (.lit true)), .lost, (.bool (.lit true)), .lost, .lost, .lost, .lost, (.int .i64 (.lit 37))]) (List.replicate 91 .lost),
 objsFrom 104 0 doorL ++ [],
 [((.cmp .lss (.cv .i64 (.var 0)) (.lit 1)), false), ((.cmp .lss (.lit 69) (.cv .i64 (.var 0))), false), ((.cmp .eql (.var 1) (.lit 6699574)), true)]⟩
def T3_107 : Tp := ⟨List.append ([(.int .i64 (.cv .i64 (.var 0))), (.strv (.var 1)), .lost, .lost, .lost, (.bool (.lit true)), .lost, (.bool (.lit true)), .lost, .lost, .lost, .lost, (.int .i64 (.lit 38))]) (List.replicate 91 .lost),
 objsFrom 104 0 doorL ++ [],
 [((.cmp .lss (.cv .i64 (.var 0)) (.lit 1)), false), ((.cmp .lss (.lit 69) (.cv .i64 (.var 0))), false), ((.cmp .eql (.var 1) (.lit 446676797958)), true)]⟩
def T3_108 : Tp := ⟨List.append ([(.int .i64 (.cv .i64 (.var 0))), (.strv (.var 1)), .lost, .lost, .lost, (.bool (.lit true)), .lost, (.bool (.lit true)), .lost, .lost, .lost, .lost, (.int .i64 (.lit 39))]) (List.replicate 91 .lost),
 objsFrom 104 0 doorL ++ [],
 [((.cmp .lss (.cv .i64 (.var 0)) (.lit 1)), false), ((.cmp .lss (.lit 69) (.cv .i64 (.var 0))), false), ((.cmp .eql (.var 1) (.lit 30595642553430431)), true)]⟩
def T3_109 : Tp := ⟨List.append ([(.int .i64 (.cv .i64 (.var 0))), (.strv (.var 1)), .lost, .lost, .lost, (.bool (.lit true)), .lost, (.bool (.lit true)), .lost, .lost, .lost, .lost, (.int .i64 (.lit 40))]) (List.replicate 91 .lost),
 objsFrom 104 0 doorL ++ [],
 [((.cmp .lss (.cv .i64 (.var 0)) (.lit 1)), false), ((.cmp .lss (.lit 69) (.cv .i64 (.var 0))), false), ((.cmp .eql (.var 1) (.lit 477366002950)), true)]⟩
def T3_110 : Tp := ⟨List.append ([(.int .i64 (.cv .i64 (.var 0))), (.strv (.var 1)), .lost, .lost, .lost, (.bool (.lit true)), .lost, (.bool (.lit true)), .lost, .lost, .lost, .lost, (.int .i64 (.lit 41))]) (List.replicate 91 .lost),
 objsFrom 104 0 doorL ++ [],
 [((.cmp .lss (.cv .i64 (.var 0)) (.lit 1)), false), ((.cmp .lss (.lit 69) (.cv .i64 (.var 0))), false), ((.cmp .eql (.var 1) (.lit 121513989579120)), true)]⟩
def T3_111 : Tp := ⟨List.append ([(.int .i64 (.cv .i64 (.var 0))), (.strv (.var 1)), .lost, .lost, .lost, (.bool (.lit true)), .lost, (.bool (.lit true)), .lost, .lost, .lost, .lost, (.int .i64 (.lit 42))]) (List.replicate 91 .lost),
 objsFrom 104 0 doorL ++ [],
 [((.cmp .lss (.cv .i64 (.var 0)) (.lit 1)), false), ((.cmp .lss (.lit 69) (.cv .i64 (.var 0))), false), ((.cmp .eql (.var 1) (.lit 1992794044)), true)]⟩
def T3_112 : Tp := ⟨List.append ([(.int .i64 (.cv .i64 (.var 0))), (.strv (.var 1)), .lost, .lost, .lost, (.bool (.lit true)), .lost, (.bool (.lit true)), .lost, .lost, .lost, .lost, (.int .i64 (.lit 43))]) (List.replicate 91 .lost),
 objsFrom 104 0 doorL ++ [],
 [((.cmp .lss (.cv .i64 (.var 0)) (.lit 1)), false), ((.cmp .lss (.lit 69) (.cv .i64 (.var 0))), false), ((.cmp .eql (.var 1) (.lit 7027785)), true)]⟩
def T3_113 : Tp := ⟨List.append ([(.int .i64 (.cv .i64 (.var 0))), (.strv (.var 1)), .lost, .lost, .lost, (.bool (.lit true)), .lost, (.bool (.lit true)), .lost, .lost, .lost, .lost, (.int .i64 (.lit 44))]) (List.replicate 91 .lost),
 objsFrom 104 0 doorL ++ [],
 [((.cmp .lss (.cv .i64 (.var 0)) (.lit 1)), false), ((.cmp .lss (.lit 69) (.cv .i64 (.var 0))), false), ((.cmp .eql (.var 1) (.lit 481420745543119587266288)), true)]⟩
def T3_114 : Tp := ⟨List.append ([(.int .i64 (.cv .i64 (.var 0))), (.strv (.var 1)), .lost, .lost, .lost, (.bool (.lit true)), .lost, (.bool (.lit true)), .lost, .lost, .lost, .lost, (.int .i64 (.lit 45))]) (List.replicate 91 .lost),
 objsFrom 104 0 doorL ++ [],
 [((.cmp .lss (.cv .i64 (.var 0)) (.lit 1)), false), ((.cmp .lss (.lit 69) (.cv .i64 (.var 0))), false), ((.cmp .eql (.var 1) (.lit 525456151862)), true)]⟩
def T3_115 : Tp := ⟨List.append ([(.int .i64 (.cv .i64 (.var 0))), (.strv (.var 1)), .lost, .lost, .lost, (.bool (.lit true)), .lost, (.bool (.lit true)), .lost, .lost, .lost, .lost, (.int .i64 (.lit 46))]) (List.replicate 91 .lost),
 objsFrom 104 0 doorL ++ [],
 [((.cmp .lss (.cv .i64 (.var 0)) (.lit 1)), false), ((.cmp .lss (.lit 69) (.cv .i64 (.var 0))), false), ((.cmp .eql (.var 1) (.lit 508006270258)), true)]⟩
def T3_116 : Tp := ⟨List.append ([(.int .i64 (.cv .i64 (.var 0))), (.strv (.var 1)), .lost, .lost, .lost, (.bool (.lit true)), .lost, (.bool (.lit true)), .lost, .lost, .lost, .lost, (.int .i64 (.lit 47))]) (List.replicate 91 .lost),
 objsFrom 104 0 doorL ++ [],
 [((.cmp .lss (.cv .i64 (.var 0)) (.lit 1)), false), ((.cmp .lss (.lit 69) (.cv .i64 (.var 0))), false), ((.cmp .eql (.var 1) (.lit 438206743842)), true)]⟩
def T3_117 : Tp := ⟨List.append ([(.int .i64 (.cv .i64 (.var 0))), (.strv (.var 1)), .lost, .lost, .lost, (.bool (.lit true)), .lost, (.bool (.lit true)), .lost, .lost, .lost, .lost, (.int .i64 (.lit 48))]) (List.replicate 91 .lost),
 objsFrom 104 0 doorL ++ [],
 [((.cmp .lss (.cv .i64 (.var 0)) (.lit 1)), false), ((.cmp .lss (.lit 69) (.cv .i64 (.var 0))), false), ((.cmp .eql (.var 1) (.lit 119367874815904)), true)]⟩
def T3_118 : Tp := ⟨List.append ([(.int .i64 (.cv .i64 (.var 0))), (.strv (.var 1)), .lost, .lost, .lost, (.bool (.lit true)), .lost, (.bool (.lit true)), .lost, .lost, .lost, .lost, (.int .i64 (.lit 49))]) (List.replicate 91 .lost),
 objsFrom 104 0 doorL ++ [],
 [((.cmp .lss (.cv .i64 (.var 0)) (.lit 1)), false), ((.cmp .lss (.lit 69) (.cv .i64 (.var 0))), false), ((.cmp .eql (.var 1) (.lit 119350424934300)), true)]⟩
def T3_119 : Tp := ⟨List.append ([(.int .i64 (.cv .i64 (.var 0))), (.strv (.var 1)), .lost, .lost, .lost, (.bool (.lit true)), .lost, (.bool (.lit true)), .lost, .lost, .lost, .lost, (.int .i64 (.lit 50))]) (List.replicate 91 .lost),
 objsFrom 104 0 doorL ++ [],
 [((.cmp .lss (.cv .i64 (.var 0)) (.lit 1)), false), ((.cmp .lss (.lit 69) (.cv .i64 (.var 0))), false), ((.cmp .eql (.var 1) (.lit 119280625407884)), true)]⟩
def T3_120 : Tp := ⟨List.append ([(.int .i64 (.cv .i64 (.var 0))), (.strv (.var 1)), .lost, .lost, .lost, (.bool (.lit true)), .lost, (.bool (.lit true)), .lost, .lost, .lost, .lost, (.int .i64 (.lit 51))]) (List.replicate 91 .lost),
 objsFrom 104 0 doorL ++ [],
 [((.cmp .lss (.cv .i64 (.var 0)) (.lit 1)), false), ((.cmp .lss (.lit 69) (.cv .i64 (.var 0))), false), ((.cmp .eql (.var 1) (.lit 7229777)), true)]⟩
def T3_121 : Tp := ⟨List.append ([(.int .i64 (.cv .i64 (.var 0))), (.strv (.var 1)), .lost, .lost, .lost, (.bool (.lit true)), .lost, (.bool (.lit true)), .lost, .lost, .lost, .lost, (.int .i64 (.lit 52))]) (List.replicate 91 .lost),
 objsFrom 104 0 doorL ++ [],
 [((.cmp .lss (.cv .i64 (.var 0)) (.lit 1)), false), ((.cmp .lss (.lit 69) (.cv .i64 (.var 0))), false), ((.cmp .eql (.var 1) (.lit 1789562042)), true)]⟩
def T3_122 : Tp := ⟨List.append ([(.int .i64 (.cv .i64 (.var 0))), (.strv (.var 1)), .lost, .lost, .lost, (.bool (.lit true)), .lost, (.bool (.lit true)), .lost, .lost, .lost, .lost, (.int .i64 (.lit 53))]) (List.replicate 91 .lost),
 objsFrom 104 0 doorL ++ [],
 [((.cmp .lss (.cv .i64 (.var 0)) (.lit 1)), false), ((.cmp .lss (.lit 69) (.cv .i64 (.var 0))), false), ((.cmp .eql (.var 1) (.lit 132804113509284)), true)]⟩
def T3_123 : Tp := ⟨List.append ([(.int .i64 (.cv .i64 (.var 0))), (.strv (.var 1)), .lost, .lost, .lost, (.bool (.lit true)), .lost, (.bool (.lit true)), .lost, .lost, .lost, .lost, (.int .i64 (.lit 54))]) (List.replicate 91 .lost),
 objsFrom 104 0 doorL ++ [],
 [((.cmp .lss (.cv .i64 (.var 0)) (.lit 1)), false), ((.cmp .lss (.lit 69) (.cv .i64 (.var 0))), false), ((.cmp .eql (.var 1) (.lit 516561069360)), true)]⟩
def T3_124 : Tp := ⟨List.append ([(.int .i64 (.cv .i64 (.var 0))), (.strv (.var 1)), .lost, .lost, .lost, (.bool (.lit true)), .lost, (.bool (.lit true)), .lost, .lost, .lost, .lost, (.int .i64 (.lit 55))]) (List.replicate 91 .lost),
 objsFrom 104 0 doorL ++ [],
 [((.cmp .lss (.cv .i64 (.var 0)) (.lit 1)), false), ((.cmp .lss (.lit 69) (.cv .i64 (.var 0))), false), ((.cmp .eql (.var 1) (.lit 7887174)), true)]⟩
def T3_125 : Tp := ⟨List.append ([(.int .i64 (.cv .i64 (.var 0))), (.strv (.var 1)), .lost, .lost, .lost, (.bool (.lit true)), .lost, (.bool (.lit true)), .lost, .lost, .lost, .lost, (.int .i64 (.lit 56))]) (List.replicate 91 .lost),
 objsFrom 104 0 doorL ++ [],
 [((.cmp .lss (.cv .i64 (.var 0)) (.lit 1)), false), ((.cmp .lss (.lit 69) (.cv .i64 (.var 0))), false), ((.cmp .eql (.var 1) (.lit 2010889148)), true)]⟩
def T3_126 : Tp := ⟨List.append ([(.int .i64 (.cv .i64 (.var 0))), (.strv (.var 1)), .lost, .lost, .lost, (.bool (.lit true)), .lost, (.bool (.lit true)), .lost, .lost, .lost, .lost, (.int .i64 (.lit 57))]) (List.replicate 91 .lost),
 objsFrom 104 0 doorL ++ [],
 [((.cmp .lss (.cv .i64 (.var 0)) (.lit 1)), false), ((.cmp .lss (.lit 69) (.cv .i64 (.var 0))), false), ((.cmp .eql (.var 1) (.lit 7291719)), true)]⟩
def T3_127 : Tp := ⟨List.append ([(.int .i64 (.cv .i64 (.var 0))), (.strv (.var 1)), .lost, .lost, .lost, (.bool (.lit true)), .lost, (.bool (.lit true)), .lost, .lost, .lost, .lost, (.int .i64 (.lit 58))]) (List.replicate 91 .lost),
 objsFrom 104 0 doorL ++ [],
 [((.cmp .lss (.cv .i64 (.var 0)) (.lit 1)), false), ((.cmp .lss (.lit 69) (.cv .i64 (.var 0))), false), ((.cmp .eql (.var 1) (.lit 2010293693)), true)]⟩
def T3_128 : Tp := ⟨List.append ([(.int .i64 (.cv .i64 (.var 0))), (.strv (.var 1)), .lost, .lost, .lost, (.bool (.lit true)), .lost, (.bool (.lit true)), .lost, .lost, .lost, .lost, (.int .i64 (.lit 59))]) (List.replicate 91 .lost),
 objsFrom 104 0 doorL ++ [],
 [((.cmp .lss (.cv .i64 (.var 0)) (.lit 1)), false), ((.cmp .lss (.lit 69) (.cv .i64 (.var 0))), false), ((.cmp .eql (.var 1) (.lit 2040085127)), true)]⟩
def T3_129 : Tp := ⟨List.append ([(.int .i64 (.cv .i64 (.var 0))), (.strv (.var 1)), .lost, .lost, .lost, (.bool (.lit true)), .lost, (.bool (.lit true)), .lost, .lost, .lost, .lost, (.int .i64 (.lit 60))]) (List.replicate 91 .lost),
 objsFrom 104 0 doorL ++ [],
 [((.cmp .lss (.cv .i64 (.var 0)) (.lit 1)), false), ((.cmp .lss (.lit 69) (.cv .i64 (.var 0))), false), ((.cmp .eql (.var 1) (.lit 2040081279)), true)]⟩
def T3_130 : Tp := ⟨List.append ([(.int .i64 (.cv .i64 (.var 0))), (.strv (.var 1)), .lost, .lost, .lost, (.bool (.lit true)), .lost, (.bool (.lit true)), .lost, .lost, .lost, .lost, (.int .i64 (.lit 61))]) (List.replicate 91 .lost),
 objsFrom 104 0 doorL ++ [],
 [((.cmp .lss (.cv .i64 (.var 0)) (.lit 1)), false), ((.cmp .lss (.lit 69) (.cv .i64 (.var 0))), false), ((.cmp .eql (.var 1) (.lit 2287250834308015335078)), true)]⟩
def T3_131 : Tp := ⟨List.append ([(.int .i64 (.cv .i64 (.var 0))), (.strv (.var 1)), .lost, .lost, .lost, (.bool (.lit true)), .lost, (.bool (.lit true)), .lost, .lost, .lost, .lost, (.int .i64 (.lit 62))]) (List.replicate 91 .lost),
 objsFrom 104 0 doorL ++ [],
 [((.cmp .lss (.cv .i64 (.var 0)) (.lit 1)), false), ((.cmp .lss (.lit 69) (.cv .i64 (.var 0))), false), ((.cmp .eql (.var 1) (.lit 8899795252660495891)), true)]⟩
def T3_132 : Tp := ⟨List.append ([(.int .i64 (.cv .i64 (.var 0))), (.strv (.var 1)), .lost, .lost, .lost, (.bool (.lit true)), .lost, (.bool (.lit true)), .lost, .lost, .lost, .lost, (.int .i64 (.lit 63))]) (List.replicate 91 .lost),
 objsFrom 104 0 doorL ++ [],
 [((.cmp .lss (.cv .i64 (.var 0)) (.lit 1)), false), ((.cmp .lss (.lit 69) (.cv .i64 (.var 0))), false), ((.cmp .eql (.var 1) (.lit 8899810997206588739)), true)]⟩
def T3_133 : Tp := ⟨List.append ([(.int .i64 (.cv .i64 (.var 0))), (.strv (.var 1)), .lost, .lost, .lost, (.bool (.lit true)), .lost, (.bool (.lit true)), .lost, .lost, .lost, .lost, (.int .i64 (.lit 64))]) (List.replicate 91 .lost),
 objsFrom 104 0 doorL ++ [],
 [((.cmp .lss (.cv .i64 (.var 0)) (.lit 1)), false), ((.cmp .lss (.lit 69) (.cv .i64 (.var 0))), false), ((.cmp .eql (.var 1) (.lit 8899795296285199901)), true)]⟩
def T3_134 : Tp := ⟨List.append ([(.int .i64 (.cv .i64 (.var 0))), (.strv (.var 1)), .lost, .lost, .lost, (.bool (.lit true)), .lost, (.bool (.lit true)), .lost, .lost, .lost, .lost, (.int .i64 (.lit 65))]) (List.replicate 91 .lost),
 objsFrom 104 0 doorL ++ [],
 [((.cmp .lss (.cv .i64 (.var 0)) (.lit 1)), false), ((.cmp .lss (.lit 69) (.cv .i64 (.var 0))), false), ((.cmp .eql (.var 1) (.lit 34629614774527946)), true)]⟩
def T3_135 : Tp := ⟨List.append ([(.int .i64 (.cv .i64 (.var 0))), (.strv (.var 1)), .lost, .lost, .lost, (.bool (.lit true)), .lost, (.bool (.lit true)), .lost, .lost, .lost, .lost, (.int .i64 (.lit 66))]) (List.replicate 91 .lost),
 objsFrom 104 0 doorL ++ [],
 [((.cmp .lss (.cv .i64 (.var 0)) (.lit 1)), false), ((.cmp .lss (.lit 69) (.cv .i64 (.var 0))), false), ((.cmp .eql (.var 1) (.lit 8899806486225473582)), true)]⟩
def T3_136 : Tp := ⟨List.append ([(.int .i64 (.cv .i64 (.var 0))), (.strv (.var 1)), .lost, .lost, .lost, (.bool (.lit true)), .lost, (.bool (.lit true)), .lost, .lost, .lost, .lost, (.int .i64 (.lit 67))]) (List.replicate 91 .lost),
 objsFrom 104 0 doorL ++ [],
 [((.cmp .lss (.cv .i64 (.var 0)) (.lit 1)), false), ((.cmp .lss (.lit 69) (.cv .i64 (.var 0))), false), ((.cmp .eql (.var 1) (.lit 8899817662874640944)), true)]⟩
def T3_137 : Tp := ⟨List.append ([(.int .i64 (.cv .i64 (.var 0))), (.strv (.var 1)), .lost, .lost, .lost, (.bool (.lit true)), .lost, (.bool (.lit true)), .lost, .lost, .lost, .lost, (.int .i64 (.lit 68))]) (List.replicate 91 .lost),
 objsFrom 104 0 doorL ++ [],
 [((.cmp .lss (.cv .i64 (.var 0)) (.lit 1)), false), ((.cmp .lss (.lit 69) (.cv .i64 (.var 0))), false), ((.cmp .eql (.var 1) (.lit 2287252289505890089892)), true)]⟩
def T3_138 : Tp := ⟨List.append ([(.int .i64 (.cv .i64 (.var 0))), (.strv (.var 1)), .lost, .lost, .lost, (.bool (.lit true)), .lost, (.bool (.lit true)), .lost, .lost, .lost, .lost, (.int .i64 (.lit 69))]) (List.replicate 91 .lost),
 objsFrom 104 0 doorL ++ [],
 [((.cmp .lss (.cv .i64 (.var 0)) (.lit 1)), false), ((.cmp .lss (.lit 69) (.cv .i64 (.var 0))), false), ((.cmp .eql (.var 1) (.lit 2287252300682539257254)), true)]⟩
def T3_139 : Tp := ⟨List.append ([(.int .i64 (.cv .i64 (.var 0))), (.strv (.var 1)), .lost, .lost, .lost, (.bool (.lit true)), .lost, (.bool (.lit true)), .lost, .lost, .lost, .lost, (.int .i64 (.lit 0))]) (List.replicate 91 .lost),
 objsFrom 104 0 doorL ++ [],
 [((.cmp .lss (.cv .i64 (.var 0)) (.lit 1)), false), ((.cmp .lss (.lit 69) (.cv .i64 (.var 0))), false), ((.cmp .eql (.var 1) (.lit 2287252300682539257254)), false), ((.cmp .eql (.var 1) (.lit 2287252289505890089892)), false), ((.cmp .eql (.var 1) (.lit 8899817662874640944)), false), ((.cmp .eql (.var 1) (.lit 8899806486225473582)), false), ((.cmp .eql (.var 1) (.lit 34629614774527946)), false), ((.cmp .eql (.var 1) (.lit 8899795296285199901)), false), ((.cmp .eql (.var 1) (.lit 8899810997206588739)), false), ((.cmp .eql (.var 1) (.lit 8899795252660495891)), false), ((.cmp .eql (.var 1) (.lit 2287250834308015335078)), false), ((.cmp .eql (.var 1) (.lit 2040081279)), false), ((.cmp .eql (.var 1) (.lit 2040085127)), false), ((.cmp .eql (.var 1) (.lit 2010293693)), false), ((.cmp .eql (.var 1) (.lit 7291719)), false), ((.cmp .eql (.var 1) (.lit 2010889148)), false), ((.cmp .eql (.var 1) (.lit 7887174)), false), ((.cmp .eql (.var 1) (.lit 516561069360)), false), ((.cmp .eql (.var 1) (.lit 132804113509284)), false), ((.cmp .eql (.var 1) (.lit 1789562042)), false), ((.cmp .eql (.var 1) (.lit 7229777)), false), ((.cmp .eql (.var 1) (.lit 119280625407884)), false), ((.cmp .eql (.var 1) (.lit 119350424934300)), false), ((.cmp .eql (.var 1) (.lit 119367874815904)), false), ((.cmp .eql (.var 1) (.lit 438206743842)), false), ((.cmp .eql (.var 1) (.lit 508006270258)), false), ((.cmp .eql (.var 1) (.lit 525456151862)), false), ((.cmp .eql (.var 1) (.lit 481420745543119587266288)), false), ((.cmp .eql (.var 1) (.lit 7027785)), false), ((.cmp .eql (.var 1) (.lit 1992794044)), false), ((.cmp .eql (.var 1) (.lit 121513989579120)), false), ((.cmp .eql (.var 1) (.lit 477366002950)), false), ((.cmp .eql (.var 1) (.lit 30595642553430431)), false), ((.cmp .eql (.var 1) (.lit 446676797958)), false), ((.cmp .eql (.var 1) (.lit 6699574)), false), ((.cmp .eql (.var 1) (.lit 29667)), false), ((.cmp .eql (.var 1) (.lit 6502473)), false), ((.cmp .eql (.var 1) (.lit 7229012)), false), ((.cmp .eql (.var 1) (.lit 7624540)), false), ((.cmp .eql (.var 1) (.lit 2010757836)), false), ((.cmp .eql (.var 1) (.lit 7755862)), false), ((.cmp .eql (.var 1) (.lit 7227470)), false), ((.cmp .eql (.var 1) (.lit 6569293)), false), ((.cmp .eql (.var 1) (.lit 6697004)), false), ((.cmp .eql (.var 1) (.lit 1805809331)), false), ((.cmp .eql (.var 1) (.lit 1806535870)), false), ((.cmp .eql (.var 1) (.lit 1806534328)), false), ((.cmp .eql (.var 1) (.lit 1806006432)), false), ((.cmp .eql (.var 1) (.lit 7030861)), false), ((.cmp .eql (.var 1) (.lit 1806931398)), false), ((.cmp .eql (.var 1) (.lit 516578570038)), false), ((.cmp .eql (.var 1) (.lit 1807062720)), false), ((.cmp .eql (.var 1) (.lit 1806003862)), false), ((.cmp .eql (.var 1) (.lit 30956)), false), ((.cmp .eql (.var 1) (.lit 27101)), false), ((.cmp .eql (.var 1) (.lit 25559)), false), ((.cmp .eql (.var 1) (.lit 7820876)), false), ((.cmp .eql (.var 1) (.lit 7819334)), false), ((.cmp .eql (.var 1) (.lit 30949)), false), ((.cmp .eql (.var 1) (.lit 27094)), false), ((.cmp .eql (.var 1) (.lit 25552)), false), ((.cmp .eql (.var 1) (.lit 2009765799)), false), ((.cmp .eql (.var 1) (.lit 2010757819)), false), ((.cmp .eql (.var 1) (.lit 6763825)), false), ((.cmp .eql (.var 1) (.lit 7755845)), false), ((.cmp .eql (.var 1) (.lit 6765624)), false), ((.cmp .eql (.var 1) (.lit 7555899)), false), ((.cmp .eql (.var 1) (.lit 1959302829)), false), ((.cmp .eql (.var 1) (.lit 7224634)), false), ((.cmp .eql (.var 1) (.lit 438172200727)), false), ((.cmp .eql (.var 1) (.lit 7031629)), false)]⟩
def Ts3 : List Tp := [T3_0, T3_1, T3_2, T3_3, T3_4, T3_5, T3_6, T3_7, T3_8, T3_9, T3_10, T3_11, T3_12, T3_13, T3_14, T3_15, T3_16, T3_17, T3_18, T3_19, T3_20, T3_21, T3_22, T3_23, T3_24, T3_25, T3_26, T3_27, T3_28, T3_29, T3_30, T3_31, T3_32, T3_33, T3_34, T3_35, T3_36, T3_37, T3_38, T3_39, T3_40, T3_41, T3_42, T3_43, T3_44, T3_45, T3_46, T3_47, T3_48, T3_49, T3_50, T3_51, T3_52, T3_53, T3_54, T3_55, T3_56, T3_57, T3_58, T3_59, T3_60, T3_61, T3_62, T3_63, T3_64, T3_65, T3_66, T3_67, T3_68, T3_69, T3_70, T3_71, T3_72, T3_73, T3_74, T3_75, T3_76, T3_77, T3_78, T3_79, T3_80, T3_81, T3_82, T3_83, T3_84, T3_85, T3_86, T3_87, T3_88, T3_89, T3_90, T3_91, T3_92, T3_93, T3_94, T3_95, T3_96, T3_97, T3_98, T3_99, T3_100, T3_101, T3_102, T3_103, T3_104, T3_105, T3_106, T3_107, T3_108, T3_109, T3_110, T3_111, T3_112, T3_113, T3_114, T3_115, T3_116, T3_117, T3_118, T3_119, T3_120, T3_121, T3_122, T3_123, T3_124, T3_125, T3_126, T3_127, T3_128, T3_129, T3_130, T3_131, T3_132, T3_133, T3_134, T3_135, T3_136, T3_137, T3_138, T3_139]
def B3 : ACode := sufC 3 B2
noncomputable def M2_0 : TT (Ex × Fr × SP) := evPre CL 2000 3 B2 T2_0.fr T2_0.sp
def sk2_0 : Sk := (.node .hole (.node .hole (.node .hole (.node .hole (.node .hole (.node .hole (.node .hole (.node .hole (.node .hole (.node .hole (.node .hole (.node .hole (.node .hole (.node .hole (.node .hole (.node .hole (.node .hole (.node .hole (.node .hole (.node .hole (.node .hole (.node .hole (.node .hole (.node .hole (.node .hole (.node .hole (.node .hole (.node .hole (.node .hole (.node .hole (.node .hole (.node .hole (.node .hole (.node .hole (.node .hole (.node .hole (.node .hole (.node .hole (.node .hole (.node .hole (.node .hole (.node .hole (.node .hole (.node .hole (.node .hole (.node .hole (.node .hole (.node .hole (.node .hole (.node .hole (.node .hole (.node .hole (.node .hole (.node .hole (.node .hole (.node .hole (.node .hole (.node .hole (.node .hole (.node .hole (.node .hole (.node .hole .hole))))))))))))))))))))))))))))))))))))))))))))))))))))))))))))))
noncomputable def M2_1 : TT (Ex × Fr × SP) := evPre CL 2000 3 B2 T2_1.fr T2_1.sp
def sk2_1 : Sk := (.node .hole (.node .hole (.node .hole (.node .hole (.node .hole (.node .hole (.node .hole (.node .hole (.node .hole (.node .hole (.node .hole (.node .hole (.node .hole (.node .hole (.node .hole (.node .hole (.node .hole (.node .hole (.node .hole (.node .hole (.node .hole (.node .hole (.node .hole (.node .hole (.node .hole (.node .hole (.node .hole (.node .hole (.node .hole (.node .hole (.node .hole (.node .hole (.node .hole (.node .hole (.node .hole (.node .hole (.node .hole (.node .hole (.node .hole (.node .hole (.node .hole (.node .hole (.node .hole (.node .hole (.node .hole (.node .hole (.node .hole (.node .hole (.node .hole (.node .hole (.node .hole (.node .hole (.node .hole (.node .hole (.node .hole (.node .hole (.node .hole (.node .hole (.node .hole (.node .hole (.node .hole (.node .hole .hole))))))))))))))))))))))))))))))))))))))))))))))))))))))))))))))
noncomputable def MF_0 : TT (Ex × Fr × SP) := evCodeD CL 2000 B3 T3_0.fr T3_0.sp
noncomputable def MF_1 : TT (Ex × Fr × SP) := evCodeD CL 2000 B3 T3_1.fr T3_1.sp
noncomputable def MF_2 : TT (Ex × Fr × SP) := evCodeD CL 2000 B3 T3_2.fr T3_2.sp
noncomputable def MF_3 : TT (Ex × Fr × SP) := evCodeD CL 2000 B3 T3_3.fr T3_3.sp
noncomputable def MF_4 : TT (Ex × Fr × SP) := evCodeD CL 2000 B3 T3_4.fr T3_4.sp
noncomputable def MF_5 : TT (Ex × Fr × SP) := evCodeD CL 2000 B3 T3_5.fr T3_5.sp
noncomputable def MF_6 : TT (Ex × Fr × SP) := evCodeD CL 2000 B3 T3_6.fr T3_6.sp
noncomputable def MF_7 : TT (Ex × Fr × SP) := evCodeD CL 2000 B3 T3_7.fr T3_7.sp
noncomputable def MF_8 : TT (Ex × Fr × SP) := evCodeD CL 2000 B3 T3_8.fr T3_8.sp
noncomputable def MF_9 : TT (Ex × Fr × SP) := evCodeD CL 2000 B3 T3_9.fr T3_9.sp
noncomputable def MF_10 : TT (Ex × Fr × SP) := evCodeD CL 2000 B3 T3_10.fr T3_10.sp
noncomputable def MF_11 : TT (Ex × Fr × SP) := evCodeD CL 2000 B3 T3_11.fr T3_11.sp
noncomputable def MF_12 : TT (Ex × Fr × SP) := evCodeD CL 2000 B3 T3_12.fr T3_12.sp
noncomputable def MF_13 : TT (Ex × Fr × SP) := evCodeD CL 2000 B3 T3_13.fr T3_13.sp
noncomputable def MF_14 : TT (Ex × Fr × SP) := evCodeD CL 2000 B3 T3_14.fr T3_14.sp
noncomputable def MF_15 : TT (Ex × Fr × SP) := evCodeD CL 2000 B3 T3_15.fr T3_15.sp
noncomputable def MF_16 : TT (Ex × Fr × SP) := evCodeD CL 2000 B3 T3_16.fr T3_16.sp
noncomputable def MF_17 : TT (Ex × Fr × SP) := evCodeD CL 2000 B3 T3_17.fr T3_17.sp
noncomputable def MF_18 : TT (Ex × Fr × SP) := evCodeD CL 2000 B3 T3_18.fr T3_18.sp
noncomputable def MF_19 : TT (Ex × Fr × SP) := evCodeD CL 2000 B3 T3_19.fr T3_19.sp
noncomputable def MF_20 : TT (Ex × Fr × SP) := evCodeD CL 2000 B3 T3_20.fr T3_20.sp
noncomputable def MF_21 : TT (Ex × Fr × SP) := evCodeD CL 2000 B3 T3_21.fr T3_21.sp
noncomputable def MF_22 : TT (Ex × Fr × SP) := evCodeD CL 2000 B3 T3_22.fr T3_22.sp
noncomputable def MF_23 : TT (Ex × Fr × SP) := evCodeD CL 2000 B3 T3_23.fr T3_23.sp
noncomputable def MF_24 : TT (Ex × Fr × SP) := evCodeD CL 2000 B3 T3_24.fr T3_24.sp
noncomputable def MF_25 : TT (Ex × Fr × SP) := evCodeD CL 2000 B3 T3_25.fr T3_25.sp
noncomputable def MF_26 : TT (Ex × Fr × SP) := evCodeD CL 2000 B3 T3_26.fr T3_26.sp
noncomputable def MF_27 : TT (Ex × Fr × SP) := evCodeD CL 2000 B3 T3_27.fr T3_27.sp
noncomputable def MF_28 : TT (Ex × Fr × SP) := evCodeD CL 2000 B3 T3_28.fr T3_28.sp
noncomputable def MF_29 : TT (Ex × Fr × SP) := evCodeD CL 2000 B3 T3_29.fr T3_29.sp
noncomputable def MF_30 : TT (Ex × Fr × SP) := evCodeD CL 2000 B3 T3_30.fr T3_30.sp
noncomputable def MF_31 : TT (Ex × Fr × SP) := evCodeD CL 2000 B3 T3_31.fr T3_31.sp
noncomputable def MF_32 : TT (Ex × Fr × SP) := evCodeD CL 2000 B3 T3_32.fr T3_32.sp
noncomputable def MF_33 : TT (Ex × Fr × SP) := evCodeD CL 2000 B3 T3_33.fr T3_33.sp
noncomputable def MF_34 : TT (Ex × Fr × SP) := evCodeD CL 2000 B3 T3_34.fr T3_34.sp
noncomputable def MF_35 : TT (Ex × Fr × SP) := evCodeD CL 2000 B3 T3_35.fr T3_35.sp
noncomputable def MF_36 : TT (Ex × Fr × SP) := evCodeD CL 2000 B3 T3_36.fr T3_36.sp
noncomputable def MF_37 : TT (Ex × Fr × SP) := evCodeD CL 2000 B3 T3_37.fr T3_37.sp
noncomputable def MF_38 : TT (Ex × Fr × SP) := evCodeD CL 2000 B3 T3_38.fr T3_38.sp
noncomputable def MF_39 : TT (Ex × Fr × SP) := evCodeD CL 2000 B3 T3_39.fr T3_39.sp
noncomputable def MF_40 : TT (Ex × Fr × SP) := evCodeD CL 2000 B3 T3_40.fr T3_40.sp
noncomputable def MF_41 : TT (Ex × Fr × SP) := evCodeD CL 2000 B3 T3_41.fr T3_41.sp
noncomputable def MF_42 : TT (Ex × Fr × SP) := evCodeD CL 2000 B3 T3_42.fr T3_42.sp
noncomputable def MF_43 : TT (Ex × Fr × SP) := evCodeD CL 2000 B3 T3_43.fr T3_43.sp
noncomputable def MF_44 : TT (Ex × Fr × SP) := evCodeD CL 2000 B3 T3_44.fr T3_44.sp
noncomputable def MF_45 : TT (Ex × Fr × SP) := evCodeD CL 2000 B3 T3_45.fr T3_45.sp
noncomputable def MF_46 : TT (Ex × Fr × SP) := evCodeD CL 2000 B3 T3_46.fr T3_46.sp
noncomputable def MF_47 : TT (Ex × Fr × SP) := evCodeD CL 2000 B3 T3_47.fr T3_47.sp
noncomputable def MF_48 : TT (Ex × Fr × SP) := evCodeD CL 2000 B3 T3_48.fr T3_48.sp
noncomputable def MF_49 : TT (Ex × Fr × SP) := evCodeD CL 2000 B3 T3_49.fr T3_49.sp
noncomputable def MF_50 : TT (Ex × Fr × SP) := evCodeD CL 2000 B3 T3_50.fr T3_50.sp
noncomputable def MF_51 : TT (Ex × Fr × SP) := evCodeD CL 2000 B3 T3_51.fr T3_51.sp
noncomputable def MF_52 : TT (Ex × Fr × SP) := evCodeD CL 2000 B3 T3_52.fr T3_52.sp
noncomputable def MF_53 : TT (Ex × Fr × SP) := evCodeD CL 2000 B3 T3_53.fr T3_53.sp
noncomputable def MF_54 : TT (Ex × Fr × SP) := evCodeD CL 2000 B3 T3_54.fr T3_54.sp
noncomputable def MF_55 : TT (Ex × Fr × SP) := evCodeD CL 2000 B3 T3_55.fr T3_55.sp
noncomputable def MF_56 : TT (Ex × Fr × SP) := evCodeD CL 2000 B3 T3_56.fr T3_56.sp
noncomputable def MF_57 : TT (Ex × Fr × SP) := evCodeD CL 2000 B3 T3_57.fr T3_57.sp
noncomputable def MF_58 : TT (Ex × Fr × SP) := evCodeD CL 2000 B3 T3_58.fr T3_58.sp
noncomputable def MF_59 : TT (Ex × Fr × SP) := evCodeD CL 2000 B3 T3_59.fr T3_59.sp
noncomputable def MF_60 : TT (Ex × Fr × SP) := evCodeD CL 2000 B3 T3_60.fr T3_60.sp
noncomputable def MF_61 : TT (Ex × Fr × SP) := evCodeD CL 2000 B3 T3_61.fr T3_61.sp
noncomputable def MF_62 : TT (Ex × Fr × SP) := evCodeD CL 2000 B3 T3_62.fr T3_62.sp
noncomputable def MF_63 : TT (Ex × Fr × SP) := evCodeD CL 2000 B3 T3_63.fr T3_63.sp
noncomputable def MF_64 : TT (Ex × Fr × SP) := evCodeD CL 2000 B3 T3_64.fr T3_64.sp
noncomputable def MF_65 : TT (Ex × Fr × SP) := evCodeD CL 2000 B3 T3_65.fr T3_65.sp
noncomputable def MF_66 : TT (Ex × Fr × SP) := evCodeD CL 2000 B3 T3_66.fr T3_66.sp
noncomputable def MF_67 : TT (Ex × Fr × SP) := evCodeD CL 2000 B3 T3_67.fr T3_67.sp
noncomputable def MF_68 : TT (Ex × Fr × SP) := evCodeD CL 2000 B3 T3_68.fr T3_68.sp
noncomputable def MF_69 : TT (Ex × Fr × SP) := evCodeD CL 2000 B3 T3_69.fr T3_69.sp
noncomputable def MF_70 : TT (Ex × Fr × SP) := evCodeD CL 2000 B3 T3_70.fr T3_70.sp
noncomputable def MF_71 : TT (Ex × Fr × SP) := evCodeD CL 2000 B3 T3_71.fr T3_71.sp
noncomputable def MF_72 : TT (Ex × Fr × SP) := evCodeD CL 2000 B3 T3_72.fr T3_72.sp
noncomputable def MF_73 : TT (Ex × Fr × SP) := evCodeD CL 2000 B3 T3_73.fr T3_73.sp
noncomputable def MF_74 : TT (Ex × Fr × SP) := evCodeD CL 2000 B3 T3_74.fr T3_74.sp
noncomputable def MF_75 : TT (Ex × Fr × SP) := evCodeD CL 2000 B3 T3_75.fr T3_75.sp
noncomputable def MF_76 : TT (Ex × Fr × SP) := evCodeD CL 2000 B3 T3_76.fr T3_76.sp
noncomputable def MF_77 : TT (Ex × Fr × SP) := evCodeD CL 2000 B3 T3_77.fr T3_77.sp
noncomputable def MF_78 : TT (Ex × Fr × SP) := evCodeD CL 2000 B3 T3_78.fr T3_78.sp
noncomputable def MF_79 : TT (Ex × Fr × SP) := evCodeD CL 2000 B3 T3_79.fr T3_79.sp
noncomputable def MF_80 : TT (Ex × Fr × SP) := evCodeD CL 2000 B3 T3_80.fr T3_80.sp
noncomputable def MF_81 : TT (Ex × Fr × SP) := evCodeD CL 2000 B3 T3_81.fr T3_81.sp
noncomputable def MF_82 : TT (Ex × Fr × SP) := evCodeD CL 2000 B3 T3_82.fr T3_82.sp
noncomputable def MF_83 : TT (Ex × Fr × SP) := evCodeD CL 2000 B3 T3_83.fr T3_83.sp
noncomputable def MF_84 : TT (Ex × Fr × SP) := evCodeD CL 2000 B3 T3_84.fr T3_84.sp
noncomputable def MF_85 : TT (Ex × Fr × SP) := evCodeD CL 2000 B3 T3_85.fr T3_85.sp
noncomputable def MF_86 : TT (Ex × Fr × SP) := evCodeD CL 2000 B3 T3_86.fr T3_86.sp
noncomputable def MF_87 : TT (Ex × Fr × SP) := evCodeD CL 2000 B3 T3_87.fr T3_87.sp
noncomputable def MF_88 : TT (Ex × Fr × SP) := evCodeD CL 2000 B3 T3_88.fr T3_88.sp
noncomputable def MF_89 : TT (Ex × Fr × SP) := evCodeD CL 2000 B3 T3_89.fr T3_89.sp
noncomputable def MF_90 : TT (Ex × Fr × SP) := evCodeD CL 2000 B3 T3_90.fr T3_90.sp
noncomputable def MF_91 : TT (Ex × Fr × SP) := evCodeD CL 2000 B3 T3_91.fr T3_91.sp
noncomputable def MF_92 : TT (Ex × Fr × SP) := evCodeD CL 2000 B3 T3_92.fr T3_92.sp
noncomputable def MF_93 : TT (Ex × Fr × SP) := evCodeD CL 2000 B3 T3_93.fr T3_93.sp
noncomputable def MF_94 : TT (Ex × Fr × SP) := evCodeD CL 2000 B3 T3_94.fr T3_94.sp
noncomputable def MF_95 : TT (Ex × Fr × SP) := evCodeD CL 2000 B3 T3_95.fr T3_95.sp
noncomputable def MF_96 : TT (Ex × Fr × SP) := evCodeD CL 2000 B3 T3_96.fr T3_96.sp
noncomputable def MF_97 : TT (Ex × Fr × SP) := evCodeD CL 2000 B3 T3_97.fr T3_97.sp
noncomputable def MF_98 : TT (Ex × Fr × SP) := evCodeD CL 2000 B3 T3_98.fr T3_98.sp
noncomputable def MF_99 : TT (Ex × Fr × SP) := evCodeD CL 2000 B3 T3_99.fr T3_99.sp
noncomputable def MF_100 : TT (Ex × Fr × SP) := evCodeD CL 2000 B3 T3_100.fr T3_100.sp
noncomputable def MF_101 : TT (Ex × Fr × SP) := evCodeD CL 2000 B3 T3_101.fr T3_101.sp
noncomputable def MF_102 : TT (Ex × Fr × SP) := evCodeD CL 2000 B3 T3_102.fr T3_102.sp
noncomputable def MF_103 : TT (Ex × Fr × SP) := evCodeD CL 2000 B3 T3_103.fr T3_103.sp
noncomputable def MF_104 : TT (Ex × Fr × SP) := evCodeD CL 2000 B3 T3_104.fr T3_104.sp
noncomputable def MF_105 : TT (Ex × Fr × SP) := evCodeD CL 2000 B3 T3_105.fr T3_105.sp
noncomputable def MF_106 : TT (Ex × Fr × SP) := evCodeD CL 2000 B3 T3_106.fr T3_106.sp
noncomputable def MF_107 : TT (Ex × Fr × SP) := evCodeD CL 2000 B3 T3_107.fr T3_107.sp
noncomputable def MF_108 : TT (Ex × Fr × SP) := evCodeD CL 2000 B3 T3_108.fr T3_108.sp
noncomputable def MF_109 : TT (Ex × Fr × SP) := evCodeD CL 2000 B3 T3_109.fr T3_109.sp
noncomputable def MF_110 : TT (Ex × Fr × SP) := evCodeD CL 2000 B3 T3_110.fr T3_110.sp
noncomputable def MF_111 : TT (Ex × Fr × SP) := evCodeD CL 2000 B3 T3_111.fr T3_111.sp
noncomputable def MF_112 : TT (Ex × Fr × SP) := evCodeD CL 2000 B3 T3_112.fr T3_112.sp
noncomputable def MF_113 : TT (Ex × Fr × SP) := evCodeD CL 2000 B3 T3_113.fr T3_113.sp
noncomputable def MF_114 : TT (Ex × Fr × SP) := evCodeD CL 2000 B3 T3_114.fr T3_114.sp
noncomputable def MF_115 : TT (Ex × Fr × SP) := evCodeD CL 2000 B3 T3_115.fr T3_115.sp
noncomputable def MF_116 : TT (Ex × Fr × SP) := evCodeD CL 2000 B3 T3_116.fr T3_116.sp
noncomputable def MF_117 : TT (Ex × Fr × SP) := evCodeD CL 2000 B3 T3_117.fr T3_117.sp
noncomputable def MF_118 : TT (Ex × Fr × SP) := evCodeD CL 2000 B3 T3_118.fr T3_118.sp
noncomputable def MF_119 : TT (Ex × Fr × SP) := evCodeD CL 2000 B3 T3_119.fr T3_119.sp
noncomputable def MF_120 : TT (Ex × Fr × SP) := evCodeD CL 2000 B3 T3_120.fr T3_120.sp
noncomputable def MF_121 : TT (Ex × Fr × SP) := evCodeD CL 2000 B3 T3_121.fr T3_121.sp
noncomputable def MF_122 : TT (Ex × Fr × SP) := evCodeD CL 2000 B3 T3_122.fr T3_122.sp
noncomputable def MF_123 : TT (Ex × Fr × SP) := evCodeD CL 2000 B3 T3_123.fr T3_123.sp
noncomputable def MF_124 : TT (Ex × Fr × SP) := evCodeD CL 2000 B3 T3_124.fr T3_124.sp
noncomputable def MF_125 : TT (Ex × Fr × SP) := evCodeD CL 2000 B3 T3_125.fr T3_125.sp
noncomputable def MF_126 : TT (Ex × Fr × SP) := evCodeD CL 2000 B3 T3_126.fr T3_126.sp
noncomputable def MF_127 : TT (Ex × Fr × SP) := evCodeD CL 2000 B3 T3_127.fr T3_127.sp
noncomputable def MF_128 : TT (Ex × Fr × SP) := evCodeD CL 2000 B3 T3_128.fr T3_128.sp
noncomputable def MF_129 : TT (Ex × Fr × SP) := evCodeD CL 2000 B3 T3_129.fr T3_129.sp
noncomputable def MF_130 : TT (Ex × Fr × SP) := evCodeD CL 2000 B3 T3_130.fr T3_130.sp
noncomputable def MF_131 : TT (Ex × Fr × SP) := evCodeD CL 2000 B3 T3_131.fr T3_131.sp
noncomputable def MF_132 : TT (Ex × Fr × SP) := evCodeD CL 2000 B3 T3_132.fr T3_132.sp
noncomputable def MF_133 : TT (Ex × Fr × SP) := evCodeD CL 2000 B3 T3_133.fr T3_133.sp
noncomputable def MF_134 : TT (Ex × Fr × SP) := evCodeD CL 2000 B3 T3_134.fr T3_134.sp
noncomputable def MF_135 : TT (Ex × Fr × SP) := evCodeD CL 2000 B3 T3_135.fr T3_135.sp
noncomputable def MF_136 : TT (Ex × Fr × SP) := evCodeD CL 2000 B3 T3_136.fr T3_136.sp
noncomputable def MF_137 : TT (Ex × Fr × SP) := evCodeD CL 2000 B3 T3_137.fr T3_137.sp
noncomputable def MF_138 : TT (Ex × Fr × SP) := evCodeD CL 2000 B3 T3_138.fr T3_138.sp
noncomputable def MF_139 : TT (Ex × Fr × SP) := evCodeD CL 2000 B3 T3_139.fr T3_139.sp
end Go.Proofs.YtagaclifeoiepabDoor.isaNames

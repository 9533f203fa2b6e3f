/- HomeAlone: whoever asks, in turn, and answers as told, ends up with what was asked for. No condition. -/
import Derived.Test.YtagaclifeoiepaaQHomeAlone
import Derived.Test.YtagaclifeoiepaaPHomeAlonea
import Derived.Test.YtagaclifeoiepaaPHomeAloneb
import Derived.Test.YtagaclifeoiepaaPHomeAlonec
import Derived.Test.YtagaclifeoiepaaPHomeAloned
import Derived.Test.YtagaclifeoiepaaPHomeAlonee
import Derived.Test.YtagaclifeoiepaaPHomeAlonef
import Derived.Test.YtagaclifeoiepaaPHomeAloneg
import Derived.Test.YtagaclifeoiepaaPHomeAloneh
import Derived.Test.YtagaclifeoiepaaPHomeAlonei
import Derived.Test.YtagaclifeoiepaaPHomeAlonej
import Derived.Test.YtagaclifeoiepaaPHomeAlonek
import Derived.Test.YtagaclifeoiepaaPHomeAlonel
import Derived.Test.YtagaclifeoiepaaPHomeAlonem
import Derived.Test.YtagaclifeoiepaaPHomeAlonen
import Derived.Test.YtagaclifeoiepaaPHomeAloneo
namespace Go.Proofs.Ytagaclifeoiepaa.homeAlone
open Go.Sx Go.ChangeShapes Go.WideShapes Go.ChangeAt Go.RowKit
set_option linter.unusedVariables false
set_option linter.unusedSimpArgs false
set_option maxRecDepth 1000000

theorem sl1_0 : sk1_0.holes [] = [[true], [false]] := by rfl
theorem ck1_0 : chkL pcX (accT G 0 64 af3.res Ts2) M1_0 T1_0.pc = true := chkSk_sound sc1_0 fun p hp => allP_mem (q := fun p => chkL pcX (accT G 0 64 af3.res Ts2) (M1_0.go p) (M1_0.pcGo p T1_0.pc) = true) (l := [[true], [false]]) ⟨h1_0_0, h1_0_1, trivial⟩ p (sl1_0 ▸ hp)
theorem B_loop : B2 = .seq (.seq BR (.block BI (.loop BB))) BX := by rfl
theorem slL_0 : skL_0.holes [] = [[true, true], [true, false], [false]] := by rfl
theorem ckL_0 : chkL pcX (accL G 0 64 af3.res BI LHs TXs LH_0) ML_0 LH_0.pc = true := chkSk_sound scL_0 fun p hp => allP_mem (q := fun p => chkL pcX (accL G 0 64 af3.res BI LHs TXs LH_0) (ML_0.go p) (ML_0.pcGo p LH_0.pc) = true) (l := [[true, true], [true, false], [false]]) ⟨hL_0_0, hL_0_1, hL_0_2, trivial⟩ p (slL_0 ▸ hp)
theorem slL_1 : skL_1.holes [] = [[true, true], [true, false, true], [true, false, false, true], [true, false, false, false], [false]] := by rfl
theorem ckL_1 : chkL pcX (accL G 0 64 af3.res BI LHs TXs LH_1) ML_1 LH_1.pc = true := chkSk_sound scL_1 fun p hp => allP_mem (q := fun p => chkL pcX (accL G 0 64 af3.res BI LHs TXs LH_1) (ML_1.go p) (ML_1.pcGo p LH_1.pc) = true) (l := [[true, true], [true, false, true], [true, false, false, true], [true, false, false, false], [false]]) ⟨hL_1_0, hL_1_1, hL_1_2, hL_1_3, hL_1_4, trivial⟩ p (slL_1 ▸ hp)
theorem slL_2 : skL_2.holes [] = [[true, true], [true, false, true], [true, false, false, true], [true, false, false, false], [false]] := by rfl
theorem ckL_2 : chkL pcX (accL G 0 64 af3.res BI LHs TXs LH_2) ML_2 LH_2.pc = true := chkSk_sound scL_2 fun p hp => allP_mem (q := fun p => chkL pcX (accL G 0 64 af3.res BI LHs TXs LH_2) (ML_2.go p) (ML_2.pcGo p LH_2.pc) = true) (l := [[true, true], [true, false, true], [true, false, false, true], [true, false, false, false], [false]]) ⟨hL_2_0, hL_2_1, hL_2_2, hL_2_3, hL_2_4, trivial⟩ p (slL_2 ▸ hp)
theorem slL_3 : skL_3.holes [] = [[true, true], [true, false, true], [true, false, false, true], [true, false, false, false], [false]] := by rfl
theorem ckL_3 : chkL pcX (accL G 0 64 af3.res BI LHs TXs LH_3) ML_3 LH_3.pc = true := chkSk_sound scL_3 fun p hp => allP_mem (q := fun p => chkL pcX (accL G 0 64 af3.res BI LHs TXs LH_3) (ML_3.go p) (ML_3.pcGo p LH_3.pc) = true) (l := [[true, true], [true, false, true], [true, false, false, true], [true, false, false, false], [false]]) ⟨hL_3_0, hL_3_1, hL_3_2, hL_3_3, hL_3_4, trivial⟩ p (slL_3 ▸ hp)
theorem slL_4 : skL_4.holes [] = [[true, true], [true, false, true], [true, false, false, true], [true, false, false, false], [false]] := by rfl
theorem ckL_4 : chkL pcX (accL G 0 64 af3.res BI LHs TXs LH_4) ML_4 LH_4.pc = true := chkSk_sound scL_4 fun p hp => allP_mem (q := fun p => chkL pcX (accL G 0 64 af3.res BI LHs TXs LH_4) (ML_4.go p) (ML_4.pcGo p LH_4.pc) = true) (l := [[true, true], [true, false, true], [true, false, false, true], [true, false, false, false], [false]]) ⟨hL_4_0, hL_4_1, hL_4_2, hL_4_3, hL_4_4, trivial⟩ p (slL_4 ▸ hp)
theorem slL_5 : skL_5.holes [] = [[true, true], [true, false, true], [true, false, false], [false]] := by rfl
theorem ckL_5 : chkL pcX (accL G 0 64 af3.res BI LHs TXs LH_5) ML_5 LH_5.pc = true := chkSk_sound scL_5 fun p hp => allP_mem (q := fun p => chkL pcX (accL G 0 64 af3.res BI LHs TXs LH_5) (ML_5.go p) (ML_5.pcGo p LH_5.pc) = true) (l := [[true, true], [true, false, true], [true, false, false], [false]]) ⟨hL_5_0, hL_5_1, hL_5_2, hL_5_3, trivial⟩ p (slL_5 ▸ hp)
theorem slL_6 : skL_6.holes [] = [[true, true], [true, false, true], [true, false, false], [false]] := by rfl
theorem ckL_6 : chkL pcX (accL G 0 64 af3.res BI LHs TXs LH_6) ML_6 LH_6.pc = true := chkSk_sound scL_6 fun p hp => allP_mem (q := fun p => chkL pcX (accL G 0 64 af3.res BI LHs TXs LH_6) (ML_6.go p) (ML_6.pcGo p LH_6.pc) = true) (l := [[true, true], [true, false, true], [true, false, false], [false]]) ⟨hL_6_0, hL_6_1, hL_6_2, hL_6_3, trivial⟩ p (slL_6 ▸ hp)
theorem slL_7 : skL_7.holes [] = [[true, true], [true, false, true], [true, false, false], [false]] := by rfl
theorem ckL_7 : chkL pcX (accL G 0 64 af3.res BI LHs TXs LH_7) ML_7 LH_7.pc = true := chkSk_sound scL_7 fun p hp => allP_mem (q := fun p => chkL pcX (accL G 0 64 af3.res BI LHs TXs LH_7) (ML_7.go p) (ML_7.pcGo p LH_7.pc) = true) (l := [[true, true], [true, false, true], [true, false, false], [false]]) ⟨hL_7_0, hL_7_1, hL_7_2, hL_7_3, trivial⟩ p (slL_7 ▸ hp)
theorem slL_8 : skL_8.holes [] = [[true, true], [true, false, true], [true, false, false], [false]] := by rfl
theorem ckL_8 : chkL pcX (accL G 0 64 af3.res BI LHs TXs LH_8) ML_8 LH_8.pc = true := chkSk_sound scL_8 fun p hp => allP_mem (q := fun p => chkL pcX (accL G 0 64 af3.res BI LHs TXs LH_8) (ML_8.go p) (ML_8.pcGo p LH_8.pc) = true) (l := [[true, true], [true, false, true], [true, false, false], [false]]) ⟨hL_8_0, hL_8_1, hL_8_2, hL_8_3, trivial⟩ p (slL_8 ▸ hp)
theorem slL_9 : skL_9.holes [] = [[true, true], [true, false, true], [true, false, false, true], [true, false, false, false], [false]] := by rfl
theorem ckL_9 : chkL pcX (accL G 0 64 af3.res BI LHs TXs LH_9) ML_9 LH_9.pc = true := chkSk_sound scL_9 fun p hp => allP_mem (q := fun p => chkL pcX (accL G 0 64 af3.res BI LHs TXs LH_9) (ML_9.go p) (ML_9.pcGo p LH_9.pc) = true) (l := [[true, true], [true, false, true], [true, false, false, true], [true, false, false, false], [false]]) ⟨hL_9_0, hL_9_1, hL_9_2, hL_9_3, hL_9_4, trivial⟩ p (slL_9 ▸ hp)
theorem slL_10 : skL_10.holes [] = [[true, true], [true, false, true], [true, false, false, true], [true, false, false, false], [false]] := by rfl
theorem ckL_10 : chkL pcX (accL G 0 64 af3.res BI LHs TXs LH_10) ML_10 LH_10.pc = true := chkSk_sound scL_10 fun p hp => allP_mem (q := fun p => chkL pcX (accL G 0 64 af3.res BI LHs TXs LH_10) (ML_10.go p) (ML_10.pcGo p LH_10.pc) = true) (l := [[true, true], [true, false, true], [true, false, false, true], [true, false, false, false], [false]]) ⟨hL_10_0, hL_10_1, hL_10_2, hL_10_3, hL_10_4, trivial⟩ p (slL_10 ▸ hp)
theorem slL_11 : skL_11.holes [] = [[true, true], [true, false, true], [true, false, false, true], [true, false, false, false], [false]] := by rfl
theorem ckL_11 : chkL pcX (accL G 0 64 af3.res BI LHs TXs LH_11) ML_11 LH_11.pc = true := chkSk_sound scL_11 fun p hp => allP_mem (q := fun p => chkL pcX (accL G 0 64 af3.res BI LHs TXs LH_11) (ML_11.go p) (ML_11.pcGo p LH_11.pc) = true) (l := [[true, true], [true, false, true], [true, false, false, true], [true, false, false, false], [false]]) ⟨hL_11_0, hL_11_1, hL_11_2, hL_11_3, hL_11_4, trivial⟩ p (slL_11 ▸ hp)
theorem slL_12 : skL_12.holes [] = [[true, true], [true, false, true], [true, false, false, true], [true, false, false, false], [false]] := by rfl
theorem ckL_12 : chkL pcX (accL G 0 64 af3.res BI LHs TXs LH_12) ML_12 LH_12.pc = true := chkSk_sound scL_12 fun p hp => allP_mem (q := fun p => chkL pcX (accL G 0 64 af3.res BI LHs TXs LH_12) (ML_12.go p) (ML_12.pcGo p LH_12.pc) = true) (l := [[true, true], [true, false, true], [true, false, false, true], [true, false, false, false], [false]]) ⟨hL_12_0, hL_12_1, hL_12_2, hL_12_3, hL_12_4, trivial⟩ p (slL_12 ▸ hp)
theorem slL_13 : skL_13.holes [] = [[true, true], [true, false, true], [true, false, false, true], [true, false, false, false], [false]] := by rfl
theorem ckL_13 : chkL pcX (accL G 0 64 af3.res BI LHs TXs LH_13) ML_13 LH_13.pc = true := chkSk_sound scL_13 fun p hp => allP_mem (q := fun p => chkL pcX (accL G 0 64 af3.res BI LHs TXs LH_13) (ML_13.go p) (ML_13.pcGo p LH_13.pc) = true) (l := [[true, true], [true, false, true], [true, false, false, true], [true, false, false, false], [false]]) ⟨hL_13_0, hL_13_1, hL_13_2, hL_13_3, hL_13_4, trivial⟩ p (slL_13 ▸ hp)
theorem slL_14 : skL_14.holes [] = [[true, true], [true, false, true], [true, false, false, true], [true, false, false, false], [false]] := by rfl
theorem ckL_14 : chkL pcX (accL G 0 64 af3.res BI LHs TXs LH_14) ML_14 LH_14.pc = true := chkSk_sound scL_14 fun p hp => allP_mem (q := fun p => chkL pcX (accL G 0 64 af3.res BI LHs TXs LH_14) (ML_14.go p) (ML_14.pcGo p LH_14.pc) = true) (l := [[true, true], [true, false, true], [true, false, false, true], [true, false, false, false], [false]]) ⟨hL_14_0, hL_14_1, hL_14_2, hL_14_3, hL_14_4, trivial⟩ p (slL_14 ▸ hp)
theorem slL_15 : skL_15.holes [] = [[true, true], [true, false, true], [true, false, false, true], [true, false, false, false], [false]] := by rfl
theorem ckL_15 : chkL pcX (accL G 0 64 af3.res BI LHs TXs LH_15) ML_15 LH_15.pc = true := chkSk_sound scL_15 fun p hp => allP_mem (q := fun p => chkL pcX (accL G 0 64 af3.res BI LHs TXs LH_15) (ML_15.go p) (ML_15.pcGo p LH_15.pc) = true) (l := [[true, true], [true, false, true], [true, false, false, true], [true, false, false, false], [false]]) ⟨hL_15_0, hL_15_1, hL_15_2, hL_15_3, hL_15_4, trivial⟩ p (slL_15 ▸ hp)
theorem slL_16 : skL_16.holes [] = [[true, true], [true, false, true], [true, false, false, true], [true, false, false, false], [false]] := by rfl
theorem ckL_16 : chkL pcX (accL G 0 64 af3.res BI LHs TXs LH_16) ML_16 LH_16.pc = true := chkSk_sound scL_16 fun p hp => allP_mem (q := fun p => chkL pcX (accL G 0 64 af3.res BI LHs TXs LH_16) (ML_16.go p) (ML_16.pcGo p LH_16.pc) = true) (l := [[true, true], [true, false, true], [true, false, false, true], [true, false, false, false], [false]]) ⟨hL_16_0, hL_16_1, hL_16_2, hL_16_3, hL_16_4, trivial⟩ p (slL_16 ▸ hp)
theorem slL_17 : skL_17.holes [] = [[true, true], [true, false, true], [true, false, false, true], [true, false, false, false], [false]] := by rfl
theorem ckL_17 : chkL pcX (accL G 0 64 af3.res BI LHs TXs LH_17) ML_17 LH_17.pc = true := chkSk_sound scL_17 fun p hp => allP_mem (q := fun p => chkL pcX (accL G 0 64 af3.res BI LHs TXs LH_17) (ML_17.go p) (ML_17.pcGo p LH_17.pc) = true) (l := [[true, true], [true, false, true], [true, false, false, true], [true, false, false, false], [false]]) ⟨hL_17_0, hL_17_1, hL_17_2, hL_17_3, hL_17_4, trivial⟩ p (slL_17 ▸ hp)
theorem slL_18 : skL_18.holes [] = [[true, true], [true, false, true], [true, false, false, true], [true, false, false, false], [false]] := by rfl
theorem ckL_18 : chkL pcX (accL G 0 64 af3.res BI LHs TXs LH_18) ML_18 LH_18.pc = true := chkSk_sound scL_18 fun p hp => allP_mem (q := fun p => chkL pcX (accL G 0 64 af3.res BI LHs TXs LH_18) (ML_18.go p) (ML_18.pcGo p LH_18.pc) = true) (l := [[true, true], [true, false, true], [true, false, false, true], [true, false, false, false], [false]]) ⟨hL_18_0, hL_18_1, hL_18_2, hL_18_3, hL_18_4, trivial⟩ p (slL_18 ▸ hp)
theorem slL_19 : skL_19.holes [] = [[true, true], [true, false, true], [true, false, false, true], [true, false, false, false], [false]] := by rfl
theorem ckL_19 : chkL pcX (accL G 0 64 af3.res BI LHs TXs LH_19) ML_19 LH_19.pc = true := chkSk_sound scL_19 fun p hp => allP_mem (q := fun p => chkL pcX (accL G 0 64 af3.res BI LHs TXs LH_19) (ML_19.go p) (ML_19.pcGo p LH_19.pc) = true) (l := [[true, true], [true, false, true], [true, false, false, true], [true, false, false, false], [false]]) ⟨hL_19_0, hL_19_1, hL_19_2, hL_19_3, hL_19_4, trivial⟩ p (slL_19 ▸ hp)
theorem slL_20 : skL_20.holes [] = [[true, true], [true, false, true], [true, false, false, true], [true, false, false, false], [false]] := by rfl
theorem ckL_20 : chkL pcX (accL G 0 64 af3.res BI LHs TXs LH_20) ML_20 LH_20.pc = true := chkSk_sound scL_20 fun p hp => allP_mem (q := fun p => chkL pcX (accL G 0 64 af3.res BI LHs TXs LH_20) (ML_20.go p) (ML_20.pcGo p LH_20.pc) = true) (l := [[true, true], [true, false, true], [true, false, false, true], [true, false, false, false], [false]]) ⟨hL_20_0, hL_20_1, hL_20_2, hL_20_3, hL_20_4, trivial⟩ p (slL_20 ▸ hp)
theorem slL_21 : skL_21.holes [] = [[true, true], [true, false, true], [true, false, false, true], [true, false, false, false], [false]] := by rfl
theorem ckL_21 : chkL pcX (accL G 0 64 af3.res BI LHs TXs LH_21) ML_21 LH_21.pc = true := chkSk_sound scL_21 fun p hp => allP_mem (q := fun p => chkL pcX (accL G 0 64 af3.res BI LHs TXs LH_21) (ML_21.go p) (ML_21.pcGo p LH_21.pc) = true) (l := [[true, true], [true, false, true], [true, false, false, true], [true, false, false, false], [false]]) ⟨hL_21_0, hL_21_1, hL_21_2, hL_21_3, hL_21_4, trivial⟩ p (slL_21 ▸ hp)
theorem slL_22 : skL_22.holes [] = [[true, true], [true, false, true], [true, false, false, true], [true, false, false, false], [false]] := by rfl
theorem ckL_22 : chkL pcX (accL G 0 64 af3.res BI LHs TXs LH_22) ML_22 LH_22.pc = true := chkSk_sound scL_22 fun p hp => allP_mem (q := fun p => chkL pcX (accL G 0 64 af3.res BI LHs TXs LH_22) (ML_22.go p) (ML_22.pcGo p LH_22.pc) = true) (l := [[true, true], [true, false, true], [true, false, false, true], [true, false, false, false], [false]]) ⟨hL_22_0, hL_22_1, hL_22_2, hL_22_3, hL_22_4, trivial⟩ p (slL_22 ▸ hp)
theorem slL_23 : skL_23.holes [] = [[true, true], [true, false, true], [true, false, false, true], [true, false, false, false], [false]] := by rfl
theorem ckL_23 : chkL pcX (accL G 0 64 af3.res BI LHs TXs LH_23) ML_23 LH_23.pc = true := chkSk_sound scL_23 fun p hp => allP_mem (q := fun p => chkL pcX (accL G 0 64 af3.res BI LHs TXs LH_23) (ML_23.go p) (ML_23.pcGo p LH_23.pc) = true) (l := [[true, true], [true, false, true], [true, false, false, true], [true, false, false, false], [false]]) ⟨hL_23_0, hL_23_1, hL_23_2, hL_23_3, hL_23_4, trivial⟩ p (slL_23 ▸ hp)
theorem slL_24 : skL_24.holes [] = [[true, true], [true, false, true], [true, false, false, true], [true, false, false, false], [false]] := by rfl
theorem ckL_24 : chkL pcX (accL G 0 64 af3.res BI LHs TXs LH_24) ML_24 LH_24.pc = true := chkSk_sound scL_24 fun p hp => allP_mem (q := fun p => chkL pcX (accL G 0 64 af3.res BI LHs TXs LH_24) (ML_24.go p) (ML_24.pcGo p LH_24.pc) = true) (l := [[true, true], [true, false, true], [true, false, false, true], [true, false, false, false], [false]]) ⟨hL_24_0, hL_24_1, hL_24_2, hL_24_3, hL_24_4, trivial⟩ p (slL_24 ▸ hp)
theorem slL_25 : skL_25.holes [] = [[true, true], [true, false, true], [true, false, false, true], [true, false, false, false], [false]] := by rfl
theorem ckL_25 : chkL pcX (accL G 0 64 af3.res BI LHs TXs LH_25) ML_25 LH_25.pc = true := chkSk_sound scL_25 fun p hp => allP_mem (q := fun p => chkL pcX (accL G 0 64 af3.res BI LHs TXs LH_25) (ML_25.go p) (ML_25.pcGo p LH_25.pc) = true) (l := [[true, true], [true, false, true], [true, false, false, true], [true, false, false, false], [false]]) ⟨hL_25_0, hL_25_1, hL_25_2, hL_25_3, hL_25_4, trivial⟩ p (slL_25 ▸ hp)
theorem slL_26 : skL_26.holes [] = [[true, true], [true, false, true], [true, false, false, true], [true, false, false, false], [false]] := by rfl
theorem ckL_26 : chkL pcX (accL G 0 64 af3.res BI LHs TXs LH_26) ML_26 LH_26.pc = true := chkSk_sound scL_26 fun p hp => allP_mem (q := fun p => chkL pcX (accL G 0 64 af3.res BI LHs TXs LH_26) (ML_26.go p) (ML_26.pcGo p LH_26.pc) = true) (l := [[true, true], [true, false, true], [true, false, false, true], [true, false, false, false], [false]]) ⟨hL_26_0, hL_26_1, hL_26_2, hL_26_3, hL_26_4, trivial⟩ p (slL_26 ▸ hp)
theorem slL_27 : skL_27.holes [] = [[true, true], [true, false, true], [true, false, false, true], [true, false, false, false], [false]] := by rfl
theorem ckL_27 : chkL pcX (accL G 0 64 af3.res BI LHs TXs LH_27) ML_27 LH_27.pc = true := chkSk_sound scL_27 fun p hp => allP_mem (q := fun p => chkL pcX (accL G 0 64 af3.res BI LHs TXs LH_27) (ML_27.go p) (ML_27.pcGo p LH_27.pc) = true) (l := [[true, true], [true, false, true], [true, false, false, true], [true, false, false, false], [false]]) ⟨hL_27_0, hL_27_1, hL_27_2, hL_27_3, hL_27_4, trivial⟩ p (slL_27 ▸ hp)
theorem slL_28 : skL_28.holes [] = [[true, true], [true, false, true], [true, false, false, true], [true, false, false, false], [false]] := by rfl
theorem ckL_28 : chkL pcX (accL G 0 64 af3.res BI LHs TXs LH_28) ML_28 LH_28.pc = true := chkSk_sound scL_28 fun p hp => allP_mem (q := fun p => chkL pcX (accL G 0 64 af3.res BI LHs TXs LH_28) (ML_28.go p) (ML_28.pcGo p LH_28.pc) = true) (l := [[true, true], [true, false, true], [true, false, false, true], [true, false, false, false], [false]]) ⟨hL_28_0, hL_28_1, hL_28_2, hL_28_3, hL_28_4, trivial⟩ p (slL_28 ▸ hp)
theorem slL_29 : skL_29.holes [] = [[true, true], [true, false, true], [true, false, false, true], [true, false, false, false], [false]] := by rfl
theorem ckL_29 : chkL pcX (accL G 0 64 af3.res BI LHs TXs LH_29) ML_29 LH_29.pc = true := chkSk_sound scL_29 fun p hp => allP_mem (q := fun p => chkL pcX (accL G 0 64 af3.res BI LHs TXs LH_29) (ML_29.go p) (ML_29.pcGo p LH_29.pc) = true) (l := [[true, true], [true, false, true], [true, false, false, true], [true, false, false, false], [false]]) ⟨hL_29_0, hL_29_1, hL_29_2, hL_29_3, hL_29_4, trivial⟩ p (slL_29 ▸ hp)
theorem slL_30 : skL_30.holes [] = [[true, true], [true, false, true], [true, false, false, true], [true, false, false, false], [false]] := by rfl
theorem ckL_30 : chkL pcX (accL G 0 64 af3.res BI LHs TXs LH_30) ML_30 LH_30.pc = true := chkSk_sound scL_30 fun p hp => allP_mem (q := fun p => chkL pcX (accL G 0 64 af3.res BI LHs TXs LH_30) (ML_30.go p) (ML_30.pcGo p LH_30.pc) = true) (l := [[true, true], [true, false, true], [true, false, false, true], [true, false, false, false], [false]]) ⟨hL_30_0, hL_30_1, hL_30_2, hL_30_3, hL_30_4, trivial⟩ p (slL_30 ▸ hp)
theorem slL_31 : skL_31.holes [] = [[true, true], [true, false, true], [true, false, false, true], [true, false, false, false], [false]] := by rfl
theorem ckL_31 : chkL pcX (accL G 0 64 af3.res BI LHs TXs LH_31) ML_31 LH_31.pc = true := chkSk_sound scL_31 fun p hp => allP_mem (q := fun p => chkL pcX (accL G 0 64 af3.res BI LHs TXs LH_31) (ML_31.go p) (ML_31.pcGo p LH_31.pc) = true) (l := [[true, true], [true, false, true], [true, false, false, true], [true, false, false, false], [false]]) ⟨hL_31_0, hL_31_1, hL_31_2, hL_31_3, hL_31_4, trivial⟩ p (slL_31 ▸ hp)
theorem slL_32 : skL_32.holes [] = [[true, true], [true, false, true], [true, false, false, true], [true, false, false, false], [false]] := by rfl
theorem ckL_32 : chkL pcX (accL G 0 64 af3.res BI LHs TXs LH_32) ML_32 LH_32.pc = true := chkSk_sound scL_32 fun p hp => allP_mem (q := fun p => chkL pcX (accL G 0 64 af3.res BI LHs TXs LH_32) (ML_32.go p) (ML_32.pcGo p LH_32.pc) = true) (l := [[true, true], [true, false, true], [true, false, false, true], [true, false, false, false], [false]]) ⟨hL_32_0, hL_32_1, hL_32_2, hL_32_3, hL_32_4, trivial⟩ p (slL_32 ▸ hp)
theorem slL_33 : skL_33.holes [] = [[true, true], [true, false, true], [true, false, false, true], [true, false, false, false], [false]] := by rfl
theorem ckL_33 : chkL pcX (accL G 0 64 af3.res BI LHs TXs LH_33) ML_33 LH_33.pc = true := chkSk_sound scL_33 fun p hp => allP_mem (q := fun p => chkL pcX (accL G 0 64 af3.res BI LHs TXs LH_33) (ML_33.go p) (ML_33.pcGo p LH_33.pc) = true) (l := [[true, true], [true, false, true], [true, false, false, true], [true, false, false, false], [false]]) ⟨hL_33_0, hL_33_1, hL_33_2, hL_33_3, hL_33_4, trivial⟩ p (slL_33 ▸ hp)
theorem slL_34 : skL_34.holes [] = [[true, true], [true, false, true], [true, false, false, true], [true, false, false, false], [false]] := by rfl
theorem ckL_34 : chkL pcX (accL G 0 64 af3.res BI LHs TXs LH_34) ML_34 LH_34.pc = true := chkSk_sound scL_34 fun p hp => allP_mem (q := fun p => chkL pcX (accL G 0 64 af3.res BI LHs TXs LH_34) (ML_34.go p) (ML_34.pcGo p LH_34.pc) = true) (l := [[true, true], [true, false, true], [true, false, false, true], [true, false, false, false], [false]]) ⟨hL_34_0, hL_34_1, hL_34_2, hL_34_3, hL_34_4, trivial⟩ p (slL_34 ▸ hp)
theorem slL_35 : skL_35.holes [] = [[true, true], [true, false, true], [true, false, false, true], [true, false, false, false], [false]] := by rfl
theorem ckL_35 : chkL pcX (accL G 0 64 af3.res BI LHs TXs LH_35) ML_35 LH_35.pc = true := chkSk_sound scL_35 fun p hp => allP_mem (q := fun p => chkL pcX (accL G 0 64 af3.res BI LHs TXs LH_35) (ML_35.go p) (ML_35.pcGo p LH_35.pc) = true) (l := [[true, true], [true, false, true], [true, false, false, true], [true, false, false, false], [false]]) ⟨hL_35_0, hL_35_1, hL_35_2, hL_35_3, hL_35_4, trivial⟩ p (slL_35 ▸ hp)
theorem slL_36 : skL_36.holes [] = [[true, true], [true, false, true], [true, false, false, true], [true, false, false, false], [false]] := by rfl
theorem ckL_36 : chkL pcX (accL G 0 64 af3.res BI LHs TXs LH_36) ML_36 LH_36.pc = true := chkSk_sound scL_36 fun p hp => allP_mem (q := fun p => chkL pcX (accL G 0 64 af3.res BI LHs TXs LH_36) (ML_36.go p) (ML_36.pcGo p LH_36.pc) = true) (l := [[true, true], [true, false, true], [true, false, false, true], [true, false, false, false], [false]]) ⟨hL_36_0, hL_36_1, hL_36_2, hL_36_3, hL_36_4, trivial⟩ p (slL_36 ▸ hp)
theorem slL_37 : skL_37.holes [] = [[true, true], [true, false, true], [true, false, false, true], [true, false, false, false], [false]] := by rfl
theorem ckL_37 : chkL pcX (accL G 0 64 af3.res BI LHs TXs LH_37) ML_37 LH_37.pc = true := chkSk_sound scL_37 fun p hp => allP_mem (q := fun p => chkL pcX (accL G 0 64 af3.res BI LHs TXs LH_37) (ML_37.go p) (ML_37.pcGo p LH_37.pc) = true) (l := [[true, true], [true, false, true], [true, false, false, true], [true, false, false, false], [false]]) ⟨hL_37_0, hL_37_1, hL_37_2, hL_37_3, hL_37_4, trivial⟩ p (slL_37 ▸ hp)
theorem slL_38 : skL_38.holes [] = [[true, true], [true, false, true], [true, false, false, true], [true, false, false, false], [false]] := by rfl
theorem ckL_38 : chkL pcX (accL G 0 64 af3.res BI LHs TXs LH_38) ML_38 LH_38.pc = true := chkSk_sound scL_38 fun p hp => allP_mem (q := fun p => chkL pcX (accL G 0 64 af3.res BI LHs TXs LH_38) (ML_38.go p) (ML_38.pcGo p LH_38.pc) = true) (l := [[true, true], [true, false, true], [true, false, false, true], [true, false, false, false], [false]]) ⟨hL_38_0, hL_38_1, hL_38_2, hL_38_3, hL_38_4, trivial⟩ p (slL_38 ▸ hp)
theorem slL_39 : skL_39.holes [] = [[true, true], [true, false, true], [true, false, false, true], [true, false, false, false], [false]] := by rfl
theorem ckL_39 : chkL pcX (accL G 0 64 af3.res BI LHs TXs LH_39) ML_39 LH_39.pc = true := chkSk_sound scL_39 fun p hp => allP_mem (q := fun p => chkL pcX (accL G 0 64 af3.res BI LHs TXs LH_39) (ML_39.go p) (ML_39.pcGo p LH_39.pc) = true) (l := [[true, true], [true, false, true], [true, false, false, true], [true, false, false, false], [false]]) ⟨hL_39_0, hL_39_1, hL_39_2, hL_39_3, hL_39_4, trivial⟩ p (slL_39 ▸ hp)
theorem slL_40 : skL_40.holes [] = [[true, true], [true, false, true], [true, false, false, true], [true, false, false, false], [false]] := by rfl
theorem ckL_40 : chkL pcX (accL G 0 64 af3.res BI LHs TXs LH_40) ML_40 LH_40.pc = true := chkSk_sound scL_40 fun p hp => allP_mem (q := fun p => chkL pcX (accL G 0 64 af3.res BI LHs TXs LH_40) (ML_40.go p) (ML_40.pcGo p LH_40.pc) = true) (l := [[true, true], [true, false, true], [true, false, false, true], [true, false, false, false], [false]]) ⟨hL_40_0, hL_40_1, hL_40_2, hL_40_3, hL_40_4, trivial⟩ p (slL_40 ▸ hp)
theorem slL_41 : skL_41.holes [] = [[true, true], [true, false, true], [true, false, false, true], [true, false, false, false], [false]] := by rfl
theorem ckL_41 : chkL pcX (accL G 0 64 af3.res BI LHs TXs LH_41) ML_41 LH_41.pc = true := chkSk_sound scL_41 fun p hp => allP_mem (q := fun p => chkL pcX (accL G 0 64 af3.res BI LHs TXs LH_41) (ML_41.go p) (ML_41.pcGo p LH_41.pc) = true) (l := [[true, true], [true, false, true], [true, false, false, true], [true, false, false, false], [false]]) ⟨hL_41_0, hL_41_1, hL_41_2, hL_41_3, hL_41_4, trivial⟩ p (slL_41 ▸ hp)
theorem slL_42 : skL_42.holes [] = [[true, true], [true, false, true], [true, false, false, true], [true, false, false, false], [false]] := by rfl
theorem ckL_42 : chkL pcX (accL G 0 64 af3.res BI LHs TXs LH_42) ML_42 LH_42.pc = true := chkSk_sound scL_42 fun p hp => allP_mem (q := fun p => chkL pcX (accL G 0 64 af3.res BI LHs TXs LH_42) (ML_42.go p) (ML_42.pcGo p LH_42.pc) = true) (l := [[true, true], [true, false, true], [true, false, false, true], [true, false, false, false], [false]]) ⟨hL_42_0, hL_42_1, hL_42_2, hL_42_3, hL_42_4, trivial⟩ p (slL_42 ▸ hp)
theorem slL_43 : skL_43.holes [] = [[true, true], [true, false, true], [true, false, false, true], [true, false, false, false], [false]] := by rfl
theorem ckL_43 : chkL pcX (accL G 0 64 af3.res BI LHs TXs LH_43) ML_43 LH_43.pc = true := chkSk_sound scL_43 fun p hp => allP_mem (q := fun p => chkL pcX (accL G 0 64 af3.res BI LHs TXs LH_43) (ML_43.go p) (ML_43.pcGo p LH_43.pc) = true) (l := [[true, true], [true, false, true], [true, false, false, true], [true, false, false, false], [false]]) ⟨hL_43_0, hL_43_1, hL_43_2, hL_43_3, hL_43_4, trivial⟩ p (slL_43 ▸ hp)
theorem slL_44 : skL_44.holes [] = [[true, true], [true, false, true], [true, false, false, true], [true, false, false, false], [false]] := by rfl
theorem ckL_44 : chkL pcX (accL G 0 64 af3.res BI LHs TXs LH_44) ML_44 LH_44.pc = true := chkSk_sound scL_44 fun p hp => allP_mem (q := fun p => chkL pcX (accL G 0 64 af3.res BI LHs TXs LH_44) (ML_44.go p) (ML_44.pcGo p LH_44.pc) = true) (l := [[true, true], [true, false, true], [true, false, false, true], [true, false, false, false], [false]]) ⟨hL_44_0, hL_44_1, hL_44_2, hL_44_3, hL_44_4, trivial⟩ p (slL_44 ▸ hp)
theorem slL_45 : skL_45.holes [] = [[true, true], [true, false, true], [true, false, false, true], [true, false, false, false], [false]] := by rfl
theorem ckL_45 : chkL pcX (accL G 0 64 af3.res BI LHs TXs LH_45) ML_45 LH_45.pc = true := chkSk_sound scL_45 fun p hp => allP_mem (q := fun p => chkL pcX (accL G 0 64 af3.res BI LHs TXs LH_45) (ML_45.go p) (ML_45.pcGo p LH_45.pc) = true) (l := [[true, true], [true, false, true], [true, false, false, true], [true, false, false, false], [false]]) ⟨hL_45_0, hL_45_1, hL_45_2, hL_45_3, hL_45_4, trivial⟩ p (slL_45 ▸ hp)
theorem slL_46 : skL_46.holes [] = [[true, true], [true, false, true], [true, false, false, true], [true, false, false, false], [false]] := by rfl
theorem ckL_46 : chkL pcX (accL G 0 64 af3.res BI LHs TXs LH_46) ML_46 LH_46.pc = true := chkSk_sound scL_46 fun p hp => allP_mem (q := fun p => chkL pcX (accL G 0 64 af3.res BI LHs TXs LH_46) (ML_46.go p) (ML_46.pcGo p LH_46.pc) = true) (l := [[true, true], [true, false, true], [true, false, false, true], [true, false, false, false], [false]]) ⟨hL_46_0, hL_46_1, hL_46_2, hL_46_3, hL_46_4, trivial⟩ p (slL_46 ▸ hp)
theorem slL_47 : skL_47.holes [] = [[true, true], [true, false, true], [true, false, false, true], [true, false, false, false], [false]] := by rfl
theorem ckL_47 : chkL pcX (accL G 0 64 af3.res BI LHs TXs LH_47) ML_47 LH_47.pc = true := chkSk_sound scL_47 fun p hp => allP_mem (q := fun p => chkL pcX (accL G 0 64 af3.res BI LHs TXs LH_47) (ML_47.go p) (ML_47.pcGo p LH_47.pc) = true) (l := [[true, true], [true, false, true], [true, false, false, true], [true, false, false, false], [false]]) ⟨hL_47_0, hL_47_1, hL_47_2, hL_47_3, hL_47_4, trivial⟩ p (slL_47 ▸ hp)
theorem okL : ∀ L ∈ LHs, chkL pcX (accL G 0 64 af3.res BI LHs TXs L) (evCodeD CL 2000 BB L.T.fr L.sp) L.pc = true := by
  intro L hL
  unfold LHs at hL
  rcases List.mem_cons.1 hL with rfl | hL
  · exact ckL_0
  rcases List.mem_cons.1 hL with rfl | hL
  · exact ckL_1
  rcases List.mem_cons.1 hL with rfl | hL
  · exact ckL_2
  rcases List.mem_cons.1 hL with rfl | hL
  · exact ckL_3
  rcases List.mem_cons.1 hL with rfl | hL
  · exact ckL_4
  rcases List.mem_cons.1 hL with rfl | hL
  · exact ckL_5
  rcases List.mem_cons.1 hL with rfl | hL
  · exact ckL_6
  rcases List.mem_cons.1 hL with rfl | hL
  · exact ckL_7
  rcases List.mem_cons.1 hL with rfl | hL
  · exact ckL_8
  rcases List.mem_cons.1 hL with rfl | hL
  · exact ckL_9
  rcases List.mem_cons.1 hL with rfl | hL
  · exact ckL_10
  rcases List.mem_cons.1 hL with rfl | hL
  · exact ckL_11
  rcases List.mem_cons.1 hL with rfl | hL
  · exact ckL_12
  rcases List.mem_cons.1 hL with rfl | hL
  · exact ckL_13
  rcases List.mem_cons.1 hL with rfl | hL
  · exact ckL_14
  rcases List.mem_cons.1 hL with rfl | hL
  · exact ckL_15
  rcases List.mem_cons.1 hL with rfl | hL
  · exact ckL_16
  rcases List.mem_cons.1 hL with rfl | hL
  · exact ckL_17
  rcases List.mem_cons.1 hL with rfl | hL
  · exact ckL_18
  rcases List.mem_cons.1 hL with rfl | hL
  · exact ckL_19
  rcases List.mem_cons.1 hL with rfl | hL
  · exact ckL_20
  rcases List.mem_cons.1 hL with rfl | hL
  · exact ckL_21
  rcases List.mem_cons.1 hL with rfl | hL
  · exact ckL_22
  rcases List.mem_cons.1 hL with rfl | hL
  · exact ckL_23
  rcases List.mem_cons.1 hL with rfl | hL
  · exact ckL_24
  rcases List.mem_cons.1 hL with rfl | hL
  · exact ckL_25
  rcases List.mem_cons.1 hL with rfl | hL
  · exact ckL_26
  rcases List.mem_cons.1 hL with rfl | hL
  · exact ckL_27
  rcases List.mem_cons.1 hL with rfl | hL
  · exact ckL_28
  rcases List.mem_cons.1 hL with rfl | hL
  · exact ckL_29
  rcases List.mem_cons.1 hL with rfl | hL
  · exact ckL_30
  rcases List.mem_cons.1 hL with rfl | hL
  · exact ckL_31
  rcases List.mem_cons.1 hL with rfl | hL
  · exact ckL_32
  rcases List.mem_cons.1 hL with rfl | hL
  · exact ckL_33
  rcases List.mem_cons.1 hL with rfl | hL
  · exact ckL_34
  rcases List.mem_cons.1 hL with rfl | hL
  · exact ckL_35
  rcases List.mem_cons.1 hL with rfl | hL
  · exact ckL_36
  rcases List.mem_cons.1 hL with rfl | hL
  · exact ckL_37
  rcases List.mem_cons.1 hL with rfl | hL
  · exact ckL_38
  rcases List.mem_cons.1 hL with rfl | hL
  · exact ckL_39
  rcases List.mem_cons.1 hL with rfl | hL
  · exact ckL_40
  rcases List.mem_cons.1 hL with rfl | hL
  · exact ckL_41
  rcases List.mem_cons.1 hL with rfl | hL
  · exact ckL_42
  rcases List.mem_cons.1 hL with rfl | hL
  · exact ckL_43
  rcases List.mem_cons.1 hL with rfl | hL
  · exact ckL_44
  rcases List.mem_cons.1 hL with rfl | hL
  · exact ckL_45
  rcases List.mem_cons.1 hL with rfl | hL
  · exact ckL_46
  rcases List.mem_cons.1 hL with rfl | hL
  · exact ckL_47
  cases hL
theorem wX (fn : Func) (hrc : cRes Try.prog fn.results.toList = some af3.res) (W : World) (c : Code) (hc : cCode Try.prog c = some BX) : ∀ T ∈ TXs, ∀ a w, Sat CL.G W T a w → c.wp Try.prog (bodyPost Try.prog fn (Done W)) a w := by
  intro T hT
  unfold TXs at hT
  rcases List.mem_cons.1 hT with rfl | hT
  · exact fin_wp (C := CL) mixed hF (cfgT_S doorH_ok G_lt VTL) (fun V B => cfgT_L V B) hrc hc ckX_0
  cases hT
theorem w2 (fn : Func) (hrc : cRes Try.prog fn.results.toList = some af3.res) (W : World) (c : Code) (hc : cCode Try.prog c = some B2) : ∀ T ∈ Ts2, ∀ a w, Sat CL.G W T a w → c.wp Try.prog (bodyPost Try.prog fn (Done W)) a w := by
  intro T hT
  unfold Ts2 at hT
  rcases List.mem_cons.1 hT with rfl | hT
  · exact loop_wp (C := CL) mixed hF (cfgT_S doorH_ok G_lt VTL) (fun V B => cfgT_L V B) hrc G_lt' (by rw [← B_loop]; exact hc) ckH_0 okL (fun c' hc' X hX a w hs => wX fn hrc W c' hc' X hX a w hs)
  cases hT
theorem w1 (fn : Func) (hrc : cRes Try.prog fn.results.toList = some af3.res) (W : World) (c : Code) (hc : cCode Try.prog c = some B1) : ∀ T ∈ Ts1, ∀ a w, Sat CL.G W T a w → c.wp Try.prog (bodyPost Try.prog fn (Done W)) a w := by
  intro T hT
  unfold Ts1 at hT
  rcases List.mem_cons.1 hT with rfl | hT
  · exact cut_wp (C := CL) mixed hF (cfgT_S doorH_ok G_lt VTL) (fun V B => cfgT_L V B) hrc G_lt' hc ck1_0 fun T' hT' a w hs => w2 fn hrc W _ (suf_ok hc) T' hT' a w hs
  cases hT
theorem w0 (fn : Func) (hrc : cRes Try.prog fn.results.toList = some af3.res) (W : World) (c : Code) (hc : cCode Try.prog c = some B0) : ∀ T ∈ Ts0, ∀ a w, Sat CL.G W T a w → c.wp Try.prog (bodyPost Try.prog fn (Done W)) a w := by
  intro T hT
  unfold Ts0 at hT
  rcases List.mem_cons.1 hT with rfl | hT
  · exact cut_wp (C := CL) mixed hF (cfgT_S doorH_ok G_lt VTL) (fun V B => cfgT_L V B) hrc G_lt' hc ck0_0 fun T' hT' a w hs => w1 fn hrc W _ (suf_ok hc) T' hT' a w hs
  cases hT
theorem args_eq : argsOf Try.prog Try.f3.params.toList = some shs := by kernel_rfl
theorem rows_eq : pushAll doorH (objBs 0 0 shs) = some T0_0.hp := by kernel_rfl
theorem laidOut : laidOutB Try.prog = true := by kernel_rfl
theorem mapsRow : mapsRowed Try.prog = true := by kernel_rfl
theorem slicesP : slicesPos Try.prog = true := by kernel_rfl
theorem walk {H : Type} {enc : TypeId × Value → H} (W : World) (base : Nat) (args : Array Value) (ds : List (DataW H)) (ps : List MemPlace) (hA : DataW.TrodAll enc Try.prog W 0 (fun _ => true) true Try.f3.params.toList args.toList ds ps)
    (hval : ∀ (j : Nat) t v, Try.f3.params[j]? = some t → args[j]? = some v → Value.okWide Try.prog W .any base t v)
    (hD : ∀ V, ∃ ι, HRel V ι W.heap.size doorH W ∧ GRel G ι ∧ ∀ id cs, doorH.get id ≠ some (.cells cs false)) :
    Calls Try.prog 3 args W fun e w' => e = .returned (.bool true) ∧ Grown W w' := by
  have hval' : ∀ (j : Nat) t v, Try.f3.params.toList[j]? = some t → args.toList[j]? = some v → Value.okWide Try.prog W .any base t v := fun j t v h h' => hval j t v (by simpa using h) (by simpa using h')
  have hF0 : From (cellsB shs args.toList) 0 (cellsB shs args.toList) := fun j v h => by simpa using h
  let V : Val := ⟨(valOf (cellsB shs args.toList)).i, (valOf (cellsB shs args.toList)).b, xFrom W shs args.toList 0⟩
  obtain ⟨ι0, d1, d2, d3⟩ := hD V
  obtain ⟨_, c2, c3, c4, c5⟩ := open_argsB (V := V) rfl rfl (ι := fun id => (locsB shs args.toList)[id - doorH.sz]?) (i := 0) (s := 0) (id := doorH.sz) args_eq hA hval' hF0 (fun q _ => rfl) (fun k l h => by simpa using h)
  obtain ⟨ι, e1, e2, e3⟩ := start_rows (W := W) (B := W.heap.size) rfl rows_eq d1 c3 c5
  obtain ⟨r1, _, _, _, _⟩ := open_argsB (V := V) rfl rfl (ι := ι) (i := 0) (s := 0) (id := doorH.sz) args_eq hA hval' hF0 (fun q _ => rfl) e2
  rw [door_sz] at r1
  have hf : Fits V 0 (allKB shs) := fits_any rfl (fits_of c2 hF0)
  have hpc : PC.holds V pc0 := fun q hq => by
    rcases List.mem_append.1 hq with hq | hq
    · exact c4 q hq
    · exact seeds_hold hf _ q hq
  have h3 : Calls Try.prog 3 args.toList.toArray W (Done W) := law_parts (C := CL) (W := W) hF (f := 3) (af := af3) rfl (args := symBs 0 0 shs) (D := T0_0.hp) (T0 := T0_0) (by kernel_rfl) rfl (by kernel_rfl) (fun j => rfl) rfl
    (fun fn c hc hrc a w hs => w0 fn hrc W c hc T0_0 (List.mem_cons_self ..) a w hs) V hpc r1 e3 (d2.mono e1)
  have h4 : Calls Try.prog 3 args.toList.toArray W fun e w' => e = .returned (.bool true) ∧ Grown W w' := h3
  simpa using h4

set_option maxRecDepth 100000 in
theorem lifted (os : Os) (started : os.Started) (H : Type) (enc : TypeId × Value → H) :
    ReturnsInHanded {} Try.checked os 3 .any (Rows.homeAloneSpec.pre6 enc Try.prog Try.f3 Rows.homeAloneRow.domain false) (Rows.homeAloneSpec.post enc Try.prog Try.f3 false true false false) := by
  refine returnsInHanded_of_change (C := Try.checked) own started (by kernel_rfl) Try.func3
    (ChangeSpec.witness6 (enc := enc) (C := Try.checked) false ⟨#[], #[.slice none 0 0, .agg #[.int .u32 0, .int .u32 0, .int .u32 0, .int .u32 0]], []⟩ 8 (by kernel_rfl) (by kernel_rfl) (by kernel_rfl) (by kernel_rfl)) ?_
  intro W base args ds gs before hval0 hW hcnd _
  have hW' := hW
  obtain ⟨p, q, hA0, hV, hpq, hfz, hnd⟩ := hW
  obtain ⟨rfl, rfl⟩ := trodVars_none (show DataW.TrodVars enc Try.prog W (fun _ => true) [] gs q from hV)
  have hl : args.size = Try.f3.params.size := by
    have := trodAll_len hA0
    simpa using this
  refine (walk W base args ds p hA0 hval0 fun V => ⟨no, HRel.start V W, (fun g id h => by cases h), fun id cs h => by rw [show doorH = hp0 from rfl, get_hp0] at h; cases h⟩).mono fun e W' ⟨he, hg⟩ => ?_
  subst he
  exact ⟨_, rfl, post_args (rt := 4) laidOut mapsRow slicesP hW' rfl (by kernel_rfl) (fun h => by
    match ds, h with
    | [_, _], _ => rfl) rfl Try.underlying4 hg⟩

theorem over : Rows.homeAloneRow.holds Try.pinned (OpenSpec.ofChange Rows.homeAloneSpec) :=
  OpenClaim.holds_of_wide 3 Try.f3 rfl rfl rfl rfl rfl rfl rfl ⟨rfl, rfl, rfl, rfl, rfl⟩ rfl rfl rfl rfl rfl (by kernel_rfl) Try.func3 (by kernel_rfl)
    (of_decide_eq_true (by kernel_rfl)) (by unfold Func.isWrapper; first | (rw [if_pos (by decide +kernel)]; kernel_rfl) | (rw [if_neg (by decide +kernel)]; exact ⟨rfl, rfl⟩))
    (fun os started H enc _ => lifted os started H enc)

theorem proved : Rows.HomeAloneSaid :=
  over
#print axioms proved
end Go.Proofs.Ytagaclifeoiepaa.homeAlone

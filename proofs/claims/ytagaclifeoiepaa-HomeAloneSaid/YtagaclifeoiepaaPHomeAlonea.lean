/- Checks for HomeAlone. No condition. -/
import Derived.Test.YtagaclifeoiepaaQHomeAlone
namespace Go.Proofs.Ytagaclifeoiepaa.homeAlone
open Go.Sx Go.ChangeShapes Go.WideShapes Go.ChangeAt Go.RowKit
set_option linter.unusedVariables false
set_option linter.unusedSimpArgs false
set_option maxRecDepth 1000000
theorem ck0_0 : chkL pcX (accT G 0 64 af3.res Ts1) M0_0 T0_0.pc = true := by kernel_rfl
theorem sc1_0 : chkSk pcX (accT G 0 64 af3.res Ts2) sk1_0 M1_0 T1_0.pc = true := by kernel_rfl
theorem h1_0_0 : chkL pcX (accT G 0 64 af3.res Ts2) (M1_0.go ([true])) (M1_0.pcGo ([true]) T1_0.pc) = true := by kernel_rfl
theorem h1_0_1 : chkL pcX (accT G 0 64 af3.res Ts2) (M1_0.go ([false])) (M1_0.pcGo ([false]) T1_0.pc) = true := by kernel_rfl
theorem ckH_0 : chkL pcX (accH G 0 64 af3.res LHs) MH_0 T2_0.pc = true := by kernel_rfl
theorem scL_0 : chkSk pcX (accL G 0 64 af3.res BI LHs TXs LH_0) skL_0 ML_0 LH_0.pc = true := by kernel_rfl
theorem hL_0_0 : chkL pcX (accL G 0 64 af3.res BI LHs TXs LH_0) (ML_0.go ([true, true])) (ML_0.pcGo ([true, true]) LH_0.pc) = true := by kernel_rfl
theorem hL_0_1 : chkL pcX (accL G 0 64 af3.res BI LHs TXs LH_0) (ML_0.go ([true, false])) (ML_0.pcGo ([true, false]) LH_0.pc) = true := by kernel_rfl
theorem hL_0_2 : chkL pcX (accL G 0 64 af3.res BI LHs TXs LH_0) (ML_0.go ([false])) (ML_0.pcGo ([false]) LH_0.pc) = true := by kernel_rfl
theorem scL_1 : chkSk pcX (accL G 0 64 af3.res BI LHs TXs LH_1) skL_1 ML_1 LH_1.pc = true := by kernel_rfl
theorem hL_1_0 : chkL pcX (accL G 0 64 af3.res BI LHs TXs LH_1) (ML_1.go ([true, true])) (ML_1.pcGo ([true, true]) LH_1.pc) = true := by kernel_rfl
theorem hL_1_1 : chkL pcX (accL G 0 64 af3.res BI LHs TXs LH_1) (ML_1.go ([true, false, true])) (ML_1.pcGo ([true, false, true]) LH_1.pc) = true := by kernel_rfl
theorem hL_1_2 : chkL pcX (accL G 0 64 af3.res BI LHs TXs LH_1) (ML_1.go ([true, false, false, true])) (ML_1.pcGo ([true, false, false, true]) LH_1.pc) = true := by kernel_rfl
theorem hL_1_3 : chkL pcX (accL G 0 64 af3.res BI LHs TXs LH_1) (ML_1.go ([true, false, false, false])) (ML_1.pcGo ([true, false, false, false]) LH_1.pc) = true := by kernel_rfl
theorem hL_1_4 : chkL pcX (accL G 0 64 af3.res BI LHs TXs LH_1) (ML_1.go ([false])) (ML_1.pcGo ([false]) LH_1.pc) = true := by kernel_rfl
theorem scL_2 : chkSk pcX (accL G 0 64 af3.res BI LHs TXs LH_2) skL_2 ML_2 LH_2.pc = true := by kernel_rfl
theorem hL_2_0 : chkL pcX (accL G 0 64 af3.res BI LHs TXs LH_2) (ML_2.go ([true, true])) (ML_2.pcGo ([true, true]) LH_2.pc) = true := by kernel_rfl
theorem hL_2_1 : chkL pcX (accL G 0 64 af3.res BI LHs TXs LH_2) (ML_2.go ([true, false, true])) (ML_2.pcGo ([true, false, true]) LH_2.pc) = true := by kernel_rfl
theorem hL_2_2 : chkL pcX (accL G 0 64 af3.res BI LHs TXs LH_2) (ML_2.go ([true, false, false, true])) (ML_2.pcGo ([true, false, false, true]) LH_2.pc) = true := by kernel_rfl
theorem hL_2_3 : chkL pcX (accL G 0 64 af3.res BI LHs TXs LH_2) (ML_2.go ([true, false, false, false])) (ML_2.pcGo ([true, false, false, false]) LH_2.pc) = true := by kernel_rfl
end Go.Proofs.Ytagaclifeoiepaa.homeAlone

/- Checks for HomeAlone. No condition. -/
import Derived.Test.YtagaclifeoiepaaQHomeAlone
namespace Go.Proofs.Ytagaclifeoiepaa.homeAlone
open Go.Sx Go.ChangeShapes Go.WideShapes Go.ChangeAt Go.RowKit
set_option linter.unusedVariables false
set_option linter.unusedSimpArgs false
set_option maxRecDepth 1000000
theorem hL_2_4 : chkL pcX (accL G 0 64 af3.res BI LHs TXs LH_2) (ML_2.go ([false])) (ML_2.pcGo ([false]) LH_2.pc) = true := by kernel_rfl
theorem scL_3 : chkSk pcX (accL G 0 64 af3.res BI LHs TXs LH_3) skL_3 ML_3 LH_3.pc = true := by kernel_rfl
theorem hL_3_0 : chkL pcX (accL G 0 64 af3.res BI LHs TXs LH_3) (ML_3.go ([true, true])) (ML_3.pcGo ([true, true]) LH_3.pc) = true := by kernel_rfl
theorem hL_3_1 : chkL pcX (accL G 0 64 af3.res BI LHs TXs LH_3) (ML_3.go ([true, false, true])) (ML_3.pcGo ([true, false, true]) LH_3.pc) = true := by kernel_rfl
theorem hL_3_2 : chkL pcX (accL G 0 64 af3.res BI LHs TXs LH_3) (ML_3.go ([true, false, false, true])) (ML_3.pcGo ([true, false, false, true]) LH_3.pc) = true := by kernel_rfl
theorem hL_3_3 : chkL pcX (accL G 0 64 af3.res BI LHs TXs LH_3) (ML_3.go ([true, false, false, false])) (ML_3.pcGo ([true, false, false, false]) LH_3.pc) = true := by kernel_rfl
theorem hL_3_4 : chkL pcX (accL G 0 64 af3.res BI LHs TXs LH_3) (ML_3.go ([false])) (ML_3.pcGo ([false]) LH_3.pc) = true := by kernel_rfl
theorem scL_4 : chkSk pcX (accL G 0 64 af3.res BI LHs TXs LH_4) skL_4 ML_4 LH_4.pc = true := by kernel_rfl
theorem hL_4_0 : chkL pcX (accL G 0 64 af3.res BI LHs TXs LH_4) (ML_4.go ([true, true])) (ML_4.pcGo ([true, true]) LH_4.pc) = true := by kernel_rfl
theorem hL_4_1 : chkL pcX (accL G 0 64 af3.res BI LHs TXs LH_4) (ML_4.go ([true, false, true])) (ML_4.pcGo ([true, false, true]) LH_4.pc) = true := by kernel_rfl
theorem hL_4_2 : chkL pcX (accL G 0 64 af3.res BI LHs TXs LH_4) (ML_4.go ([true, false, false, true])) (ML_4.pcGo ([true, false, false, true]) LH_4.pc) = true := by kernel_rfl
theorem hL_4_3 : chkL pcX (accL G 0 64 af3.res BI LHs TXs LH_4) (ML_4.go ([true, false, false, false])) (ML_4.pcGo ([true, false, false, false]) LH_4.pc) = true := by kernel_rfl
theorem hL_4_4 : chkL pcX (accL G 0 64 af3.res BI LHs TXs LH_4) (ML_4.go ([false])) (ML_4.pcGo ([false]) LH_4.pc) = true := by kernel_rfl
theorem scL_5 : chkSk pcX (accL G 0 64 af3.res BI LHs TXs LH_5) skL_5 ML_5 LH_5.pc = true := by kernel_rfl
theorem hL_5_0 : chkL pcX (accL G 0 64 af3.res BI LHs TXs LH_5) (ML_5.go ([true, true])) (ML_5.pcGo ([true, true]) LH_5.pc) = true := by kernel_rfl
theorem hL_5_1 : chkL pcX (accL G 0 64 af3.res BI LHs TXs LH_5) (ML_5.go ([true, false, true])) (ML_5.pcGo ([true, false, true]) LH_5.pc) = true := by kernel_rfl
theorem hL_5_2 : chkL pcX (accL G 0 64 af3.res BI LHs TXs LH_5) (ML_5.go ([true, false, false])) (ML_5.pcGo ([true, false, false]) LH_5.pc) = true := by kernel_rfl
theorem hL_5_3 : chkL pcX (accL G 0 64 af3.res BI LHs TXs LH_5) (ML_5.go ([false])) (ML_5.pcGo ([false]) LH_5.pc) = true := by kernel_rfl
theorem scL_6 : chkSk pcX (accL G 0 64 af3.res BI LHs TXs LH_6) skL_6 ML_6 LH_6.pc = true := by kernel_rfl
theorem hL_6_0 : chkL pcX (accL G 0 64 af3.res BI LHs TXs LH_6) (ML_6.go ([true, true])) (ML_6.pcGo ([true, true]) LH_6.pc) = true := by kernel_rfl
end Go.Proofs.Ytagaclifeoiepaa.homeAlone

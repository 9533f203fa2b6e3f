/- Checks for HomeAlone. No condition. -/
import Derived.Test.YtagaclifeoiepaaQHomeAlone
namespace Go.Proofs.Ytagaclifeoiepaa.homeAlone
open Go.Sx Go.ChangeShapes Go.WideShapes Go.ChangeAt Go.RowKit
set_option linter.unusedVariables false
set_option linter.unusedSimpArgs false
set_option maxRecDepth 1000000
theorem hL_6_1 : chkL pcX (accL G 0 64 af3.res BI LHs TXs LH_6) (ML_6.go ([true, false, true])) (ML_6.pcGo ([true, false, true]) LH_6.pc) = true := by kernel_rfl
theorem hL_6_2 : chkL pcX (accL G 0 64 af3.res BI LHs TXs LH_6) (ML_6.go ([true, false, false])) (ML_6.pcGo ([true, false, false]) LH_6.pc) = true := by kernel_rfl
theorem hL_6_3 : chkL pcX (accL G 0 64 af3.res BI LHs TXs LH_6) (ML_6.go ([false])) (ML_6.pcGo ([false]) LH_6.pc) = true := by kernel_rfl
theorem scL_7 : chkSk pcX (accL G 0 64 af3.res BI LHs TXs LH_7) skL_7 ML_7 LH_7.pc = true := by kernel_rfl
theorem hL_7_0 : chkL pcX (accL G 0 64 af3.res BI LHs TXs LH_7) (ML_7.go ([true, true])) (ML_7.pcGo ([true, true]) LH_7.pc) = true := by kernel_rfl
theorem hL_7_1 : chkL pcX (accL G 0 64 af3.res BI LHs TXs LH_7) (ML_7.go ([true, false, true])) (ML_7.pcGo ([true, false, true]) LH_7.pc) = true := by kernel_rfl
theorem hL_7_2 : chkL pcX (accL G 0 64 af3.res BI LHs TXs LH_7) (ML_7.go ([true, false, false])) (ML_7.pcGo ([true, false, false]) LH_7.pc) = true := by kernel_rfl
theorem hL_7_3 : chkL pcX (accL G 0 64 af3.res BI LHs TXs LH_7) (ML_7.go ([false])) (ML_7.pcGo ([false]) LH_7.pc) = true := by kernel_rfl
theorem scL_8 : chkSk pcX (accL G 0 64 af3.res BI LHs TXs LH_8) skL_8 ML_8 LH_8.pc = true := by kernel_rfl
theorem hL_8_0 : chkL pcX (accL G 0 64 af3.res BI LHs TXs LH_8) (ML_8.go ([true, true])) (ML_8.pcGo ([true, true]) LH_8.pc) = true := by kernel_rfl
theorem hL_8_1 : chkL pcX (accL G 0 64 af3.res BI LHs TXs LH_8) (ML_8.go ([true, false, true])) (ML_8.pcGo ([true, false, true]) LH_8.pc) = true := by kernel_rfl
theorem hL_8_2 : chkL pcX (accL G 0 64 af3.res BI LHs TXs LH_8) (ML_8.go ([true, false, false])) (ML_8.pcGo ([true, false, false]) LH_8.pc) = true := by kernel_rfl
theorem hL_8_3 : chkL pcX (accL G 0 64 af3.res BI LHs TXs LH_8) (ML_8.go ([false])) (ML_8.pcGo ([false]) LH_8.pc) = true := by kernel_rfl
theorem scL_9 : chkSk pcX (accL G 0 64 af3.res BI LHs TXs LH_9) skL_9 ML_9 LH_9.pc = true := by kernel_rfl
theorem hL_9_0 : chkL pcX (accL G 0 64 af3.res BI LHs TXs LH_9) (ML_9.go ([true, true])) (ML_9.pcGo ([true, true]) LH_9.pc) = true := by kernel_rfl
theorem hL_9_1 : chkL pcX (accL G 0 64 af3.res BI LHs TXs LH_9) (ML_9.go ([true, false, true])) (ML_9.pcGo ([true, false, true]) LH_9.pc) = true := by kernel_rfl
theorem hL_9_2 : chkL pcX (accL G 0 64 af3.res BI LHs TXs LH_9) (ML_9.go ([true, false, false, true])) (ML_9.pcGo ([true, false, false, true]) LH_9.pc) = true := by kernel_rfl
theorem hL_9_3 : chkL pcX (accL G 0 64 af3.res BI LHs TXs LH_9) (ML_9.go ([true, false, false, false])) (ML_9.pcGo ([true, false, false, false]) LH_9.pc) = true := by kernel_rfl
theorem hL_9_4 : chkL pcX (accL G 0 64 af3.res BI LHs TXs LH_9) (ML_9.go ([false])) (ML_9.pcGo ([false]) LH_9.pc) = true := by kernel_rfl
theorem scL_10 : chkSk pcX (accL G 0 64 af3.res BI LHs TXs LH_10) skL_10 ML_10 LH_10.pc = true := by kernel_rfl
end Go.Proofs.Ytagaclifeoiepaa.homeAlone

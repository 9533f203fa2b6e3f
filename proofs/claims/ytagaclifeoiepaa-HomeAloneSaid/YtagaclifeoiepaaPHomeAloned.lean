/- Checks for HomeAlone. No condition. -/
import Derived.Test.YtagaclifeoiepaaQHomeAlone
namespace Go.Proofs.Ytagaclifeoiepaa.homeAlone
open Go.Sx Go.ChangeShapes Go.WideShapes Go.ChangeAt Go.RowKit
set_option linter.unusedVariables false
set_option linter.unusedSimpArgs false
set_option maxRecDepth 1000000
theorem hL_10_0 : chkL pcX (accL G 0 64 af3.res BI LHs TXs LH_10) (ML_10.go ([true, true])) (ML_10.pcGo ([true, true]) LH_10.pc) = true := by kernel_rfl
theorem hL_10_1 : chkL pcX (accL G 0 64 af3.res BI LHs TXs LH_10) (ML_10.go ([true, false, true])) (ML_10.pcGo ([true, false, true]) LH_10.pc) = true := by kernel_rfl
theorem hL_10_2 : chkL pcX (accL G 0 64 af3.res BI LHs TXs LH_10) (ML_10.go ([true, false, false, true])) (ML_10.pcGo ([true, false, false, true]) LH_10.pc) = true := by kernel_rfl
theorem hL_10_3 : chkL pcX (accL G 0 64 af3.res BI LHs TXs LH_10) (ML_10.go ([true, false, false, false])) (ML_10.pcGo ([true, false, false, false]) LH_10.pc) = true := by kernel_rfl
theorem hL_10_4 : chkL pcX (accL G 0 64 af3.res BI LHs TXs LH_10) (ML_10.go ([false])) (ML_10.pcGo ([false]) LH_10.pc) = true := by kernel_rfl
theorem scL_11 : chkSk pcX (accL G 0 64 af3.res BI LHs TXs LH_11) skL_11 ML_11 LH_11.pc = true := by kernel_rfl
theorem hL_11_0 : chkL pcX (accL G 0 64 af3.res BI LHs TXs LH_11) (ML_11.go ([true, true])) (ML_11.pcGo ([true, true]) LH_11.pc) = true := by kernel_rfl
theorem hL_11_1 : chkL pcX (accL G 0 64 af3.res BI LHs TXs LH_11) (ML_11.go ([true, false, true])) (ML_11.pcGo ([true, false, true]) LH_11.pc) = true := by kernel_rfl
theorem hL_11_2 : chkL pcX (accL G 0 64 af3.res BI LHs TXs LH_11) (ML_11.go ([true, false, false, true])) (ML_11.pcGo ([true, false, false, true]) LH_11.pc) = true := by kernel_rfl
theorem hL_11_3 : chkL pcX (accL G 0 64 af3.res BI LHs TXs LH_11) (ML_11.go ([true, false, false, false])) (ML_11.pcGo ([true, false, false, false]) LH_11.pc) = true := by kernel_rfl
theorem hL_11_4 : chkL pcX (accL G 0 64 af3.res BI LHs TXs LH_11) (ML_11.go ([false])) (ML_11.pcGo ([false]) LH_11.pc) = true := by kernel_rfl
theorem scL_12 : chkSk pcX (accL G 0 64 af3.res BI LHs TXs LH_12) skL_12 ML_12 LH_12.pc = true := by kernel_rfl
theorem hL_12_0 : chkL pcX (accL G 0 64 af3.res BI LHs TXs LH_12) (ML_12.go ([true, true])) (ML_12.pcGo ([true, true]) LH_12.pc) = true := by kernel_rfl
theorem hL_12_1 : chkL pcX (accL G 0 64 af3.res BI LHs TXs LH_12) (ML_12.go ([true, false, true])) (ML_12.pcGo ([true, false, true]) LH_12.pc) = true := by kernel_rfl
theorem hL_12_2 : chkL pcX (accL G 0 64 af3.res BI LHs TXs LH_12) (ML_12.go ([true, false, false, true])) (ML_12.pcGo ([true, false, false, true]) LH_12.pc) = true := by kernel_rfl
theorem hL_12_3 : chkL pcX (accL G 0 64 af3.res BI LHs TXs LH_12) (ML_12.go ([true, false, false, false])) (ML_12.pcGo ([true, false, false, false]) LH_12.pc) = true := by kernel_rfl
theorem hL_12_4 : chkL pcX (accL G 0 64 af3.res BI LHs TXs LH_12) (ML_12.go ([false])) (ML_12.pcGo ([false]) LH_12.pc) = true := by kernel_rfl
theorem scL_13 : chkSk pcX (accL G 0 64 af3.res BI LHs TXs LH_13) skL_13 ML_13 LH_13.pc = true := by kernel_rfl
theorem hL_13_0 : chkL pcX (accL G 0 64 af3.res BI LHs TXs LH_13) (ML_13.go ([true, true])) (ML_13.pcGo ([true, true]) LH_13.pc) = true := by kernel_rfl
theorem hL_13_1 : chkL pcX (accL G 0 64 af3.res BI LHs TXs LH_13) (ML_13.go ([true, false, true])) (ML_13.pcGo ([true, false, true]) LH_13.pc) = true := by kernel_rfl
end Go.Proofs.Ytagaclifeoiepaa.homeAlone

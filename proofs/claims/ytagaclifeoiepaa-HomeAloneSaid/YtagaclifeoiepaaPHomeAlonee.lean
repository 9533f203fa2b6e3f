/- Checks for HomeAlone. No condition. -/
import Derived.Test.YtagaclifeoiepaaQHomeAlone
namespace Go.Proofs.Ytagaclifeoiepaa.homeAlone
open Go.Sx Go.ChangeShapes Go.WideShapes Go.ChangeAt Go.RowKit
set_option linter.unusedVariables false
set_option linter.unusedSimpArgs false
set_option maxRecDepth 1000000
theorem hL_13_2 : chkL pcX (accL G 0 64 af3.res BI LHs TXs LH_13) (ML_13.go ([true, false, false, true])) (ML_13.pcGo ([true, false, false, true]) LH_13.pc) = true := by kernel_rfl
theorem hL_13_3 : chkL pcX (accL G 0 64 af3.res BI LHs TXs LH_13) (ML_13.go ([true, false, false, false])) (ML_13.pcGo ([true, false, false, false]) LH_13.pc) = true := by kernel_rfl
theorem hL_13_4 : chkL pcX (accL G 0 64 af3.res BI LHs TXs LH_13) (ML_13.go ([false])) (ML_13.pcGo ([false]) LH_13.pc) = true := by kernel_rfl
theorem scL_14 : chkSk pcX (accL G 0 64 af3.res BI LHs TXs LH_14) skL_14 ML_14 LH_14.pc = true := by kernel_rfl
theorem hL_14_0 : chkL pcX (accL G 0 64 af3.res BI LHs TXs LH_14) (ML_14.go ([true, true])) (ML_14.pcGo ([true, true]) LH_14.pc) = true := by kernel_rfl
theorem hL_14_1 : chkL pcX (accL G 0 64 af3.res BI LHs TXs LH_14) (ML_14.go ([true, false, true])) (ML_14.pcGo ([true, false, true]) LH_14.pc) = true := by kernel_rfl
theorem hL_14_2 : chkL pcX (accL G 0 64 af3.res BI LHs TXs LH_14) (ML_14.go ([true, false, false, true])) (ML_14.pcGo ([true, false, false, true]) LH_14.pc) = true := by kernel_rfl
theorem hL_14_3 : chkL pcX (accL G 0 64 af3.res BI LHs TXs LH_14) (ML_14.go ([true, false, false, false])) (ML_14.pcGo ([true, false, false, false]) LH_14.pc) = true := by kernel_rfl
theorem hL_14_4 : chkL pcX (accL G 0 64 af3.res BI LHs TXs LH_14) (ML_14.go ([false])) (ML_14.pcGo ([false]) LH_14.pc) = true := by kernel_rfl
theorem scL_15 : chkSk pcX (accL G 0 64 af3.res BI LHs TXs LH_15) skL_15 ML_15 LH_15.pc = true := by kernel_rfl
theorem hL_15_0 : chkL pcX (accL G 0 64 af3.res BI LHs TXs LH_15) (ML_15.go ([true, true])) (ML_15.pcGo ([true, true]) LH_15.pc) = true := by kernel_rfl
theorem hL_15_1 : chkL pcX (accL G 0 64 af3.res BI LHs TXs LH_15) (ML_15.go ([true, false, true])) (ML_15.pcGo ([true, false, true]) LH_15.pc) = true := by kernel_rfl
theorem hL_15_2 : chkL pcX (accL G 0 64 af3.res BI LHs TXs LH_15) (ML_15.go ([true, false, false, true])) (ML_15.pcGo ([true, false, false, true]) LH_15.pc) = true := by kernel_rfl
theorem hL_15_3 : chkL pcX (accL G 0 64 af3.res BI LHs TXs LH_15) (ML_15.go ([true, false, false, false])) (ML_15.pcGo ([true, false, false, false]) LH_15.pc) = true := by kernel_rfl
theorem hL_15_4 : chkL pcX (accL G 0 64 af3.res BI LHs TXs LH_15) (ML_15.go ([false])) (ML_15.pcGo ([false]) LH_15.pc) = true := by kernel_rfl
theorem scL_16 : chkSk pcX (accL G 0 64 af3.res BI LHs TXs LH_16) skL_16 ML_16 LH_16.pc = true := by kernel_rfl
theorem hL_16_0 : chkL pcX (accL G 0 64 af3.res BI LHs TXs LH_16) (ML_16.go ([true, true])) (ML_16.pcGo ([true, true]) LH_16.pc) = true := by kernel_rfl
theorem hL_16_1 : chkL pcX (accL G 0 64 af3.res BI LHs TXs LH_16) (ML_16.go ([true, false, true])) (ML_16.pcGo ([true, false, true]) LH_16.pc) = true := by kernel_rfl
theorem hL_16_2 : chkL pcX (accL G 0 64 af3.res BI LHs TXs LH_16) (ML_16.go ([true, false, false, true])) (ML_16.pcGo ([true, false, false, true]) LH_16.pc) = true := by kernel_rfl
theorem hL_16_3 : chkL pcX (accL G 0 64 af3.res BI LHs TXs LH_16) (ML_16.go ([true, false, false, false])) (ML_16.pcGo ([true, false, false, false]) LH_16.pc) = true := by kernel_rfl
end Go.Proofs.Ytagaclifeoiepaa.homeAlone

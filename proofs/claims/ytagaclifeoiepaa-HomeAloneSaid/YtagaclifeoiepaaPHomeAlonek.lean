/- Checks for HomeAlone. No condition. -/
import Derived.Test.YtagaclifeoiepaaQHomeAlone
namespace Go.Proofs.Ytagaclifeoiepaa.homeAlone
open Go.Sx Go.ChangeShapes Go.WideShapes Go.ChangeAt Go.RowKit
set_option linter.unusedVariables false
set_option linter.unusedSimpArgs false
set_option maxRecDepth 1000000
theorem hL_33_2 : chkL pcX (accL G 0 64 af3.res BI LHs TXs LH_33) (ML_33.go ([true, false, false, true])) (ML_33.pcGo ([true, false, false, true]) LH_33.pc) = true := by kernel_rfl
theorem hL_33_3 : chkL pcX (accL G 0 64 af3.res BI LHs TXs LH_33) (ML_33.go ([true, false, false, false])) (ML_33.pcGo ([true, false, false, false]) LH_33.pc) = true := by kernel_rfl
theorem hL_33_4 : chkL pcX (accL G 0 64 af3.res BI LHs TXs LH_33) (ML_33.go ([false])) (ML_33.pcGo ([false]) LH_33.pc) = true := by kernel_rfl
theorem scL_34 : chkSk pcX (accL G 0 64 af3.res BI LHs TXs LH_34) skL_34 ML_34 LH_34.pc = true := by kernel_rfl
theorem hL_34_0 : chkL pcX (accL G 0 64 af3.res BI LHs TXs LH_34) (ML_34.go ([true, true])) (ML_34.pcGo ([true, true]) LH_34.pc) = true := by kernel_rfl
theorem hL_34_1 : chkL pcX (accL G 0 64 af3.res BI LHs TXs LH_34) (ML_34.go ([true, false, true])) (ML_34.pcGo ([true, false, true]) LH_34.pc) = true := by kernel_rfl
theorem hL_34_2 : chkL pcX (accL G 0 64 af3.res BI LHs TXs LH_34) (ML_34.go ([true, false, false, true])) (ML_34.pcGo ([true, false, false, true]) LH_34.pc) = true := by kernel_rfl
theorem hL_34_3 : chkL pcX (accL G 0 64 af3.res BI LHs TXs LH_34) (ML_34.go ([true, false, false, false])) (ML_34.pcGo ([true, false, false, false]) LH_34.pc) = true := by kernel_rfl
theorem hL_34_4 : chkL pcX (accL G 0 64 af3.res BI LHs TXs LH_34) (ML_34.go ([false])) (ML_34.pcGo ([false]) LH_34.pc) = true := by kernel_rfl
theorem scL_35 : chkSk pcX (accL G 0 64 af3.res BI LHs TXs LH_35) skL_35 ML_35 LH_35.pc = true := by kernel_rfl
theorem hL_35_0 : chkL pcX (accL G 0 64 af3.res BI LHs TXs LH_35) (ML_35.go ([true, true])) (ML_35.pcGo ([true, true]) LH_35.pc) = true := by kernel_rfl
theorem hL_35_1 : chkL pcX (accL G 0 64 af3.res BI LHs TXs LH_35) (ML_35.go ([true, false, true])) (ML_35.pcGo ([true, false, true]) LH_35.pc) = true := by kernel_rfl
theorem hL_35_2 : chkL pcX (accL G 0 64 af3.res BI LHs TXs LH_35) (ML_35.go ([true, false, false, true])) (ML_35.pcGo ([true, false, false, true]) LH_35.pc) = true := by kernel_rfl
theorem hL_35_3 : chkL pcX (accL G 0 64 af3.res BI LHs TXs LH_35) (ML_35.go ([true, false, false, false])) (ML_35.pcGo ([true, false, false, false]) LH_35.pc) = true := by kernel_rfl
theorem hL_35_4 : chkL pcX (accL G 0 64 af3.res BI LHs TXs LH_35) (ML_35.go ([false])) (ML_35.pcGo ([false]) LH_35.pc) = true := by kernel_rfl
theorem scL_36 : chkSk pcX (accL G 0 64 af3.res BI LHs TXs LH_36) skL_36 ML_36 LH_36.pc = true := by kernel_rfl
theorem hL_36_0 : chkL pcX (accL G 0 64 af3.res BI LHs TXs LH_36) (ML_36.go ([true, true])) (ML_36.pcGo ([true, true]) LH_36.pc) = true := by kernel_rfl
theorem hL_36_1 : chkL pcX (accL G 0 64 af3.res BI LHs TXs LH_36) (ML_36.go ([true, false, true])) (ML_36.pcGo ([true, false, true]) LH_36.pc) = true := by kernel_rfl
theorem hL_36_2 : chkL pcX (accL G 0 64 af3.res BI LHs TXs LH_36) (ML_36.go ([true, false, false, true])) (ML_36.pcGo ([true, false, false, true]) LH_36.pc) = true := by kernel_rfl
theorem hL_36_3 : chkL pcX (accL G 0 64 af3.res BI LHs TXs LH_36) (ML_36.go ([true, false, false, false])) (ML_36.pcGo ([true, false, false, false]) LH_36.pc) = true := by kernel_rfl
end Go.Proofs.Ytagaclifeoiepaa.homeAlone

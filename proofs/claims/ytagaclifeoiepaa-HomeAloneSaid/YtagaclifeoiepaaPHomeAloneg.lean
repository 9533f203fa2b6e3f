/- Checks for HomeAlone. No condition. -/
import Derived.Test.YtagaclifeoiepaaQHomeAlone
namespace Go.Proofs.Ytagaclifeoiepaa.homeAlone
open Go.Sx Go.ChangeShapes Go.WideShapes Go.ChangeAt Go.RowKit
set_option linter.unusedVariables false
set_option linter.unusedSimpArgs false
set_option maxRecDepth 1000000
theorem hL_20_0 : chkL pcX (accL G 0 64 af3.res BI LHs TXs LH_20) (ML_20.go ([true, true])) (ML_20.pcGo ([true, true]) LH_20.pc) = true := by kernel_rfl
theorem hL_20_1 : chkL pcX (accL G 0 64 af3.res BI LHs TXs LH_20) (ML_20.go ([true, false, true])) (ML_20.pcGo ([true, false, true]) LH_20.pc) = true := by kernel_rfl
theorem hL_20_2 : chkL pcX (accL G 0 64 af3.res BI LHs TXs LH_20) (ML_20.go ([true, false, false, true])) (ML_20.pcGo ([true, false, false, true]) LH_20.pc) = true := by kernel_rfl
theorem hL_20_3 : chkL pcX (accL G 0 64 af3.res BI LHs TXs LH_20) (ML_20.go ([true, false, false, false])) (ML_20.pcGo ([true, false, false, false]) LH_20.pc) = true := by kernel_rfl
theorem hL_20_4 : chkL pcX (accL G 0 64 af3.res BI LHs TXs LH_20) (ML_20.go ([false])) (ML_20.pcGo ([false]) LH_20.pc) = true := by kernel_rfl
theorem scL_21 : chkSk pcX (accL G 0 64 af3.res BI LHs TXs LH_21) skL_21 ML_21 LH_21.pc = true := by kernel_rfl
theorem hL_21_0 : chkL pcX (accL G 0 64 af3.res BI LHs TXs LH_21) (ML_21.go ([true, true])) (ML_21.pcGo ([true, true]) LH_21.pc) = true := by kernel_rfl
theorem hL_21_1 : chkL pcX (accL G 0 64 af3.res BI LHs TXs LH_21) (ML_21.go ([true, false, true])) (ML_21.pcGo ([true, false, true]) LH_21.pc) = true := by kernel_rfl
theorem hL_21_2 : chkL pcX (accL G 0 64 af3.res BI LHs TXs LH_21) (ML_21.go ([true, false, false, true])) (ML_21.pcGo ([true, false, false, true]) LH_21.pc) = true := by kernel_rfl
theorem hL_21_3 : chkL pcX (accL G 0 64 af3.res BI LHs TXs LH_21) (ML_21.go ([true, false, false, false])) (ML_21.pcGo ([true, false, false, false]) LH_21.pc) = true := by kernel_rfl
theorem hL_21_4 : chkL pcX (accL G 0 64 af3.res BI LHs TXs LH_21) (ML_21.go ([false])) (ML_21.pcGo ([false]) LH_21.pc) = true := by kernel_rfl
theorem scL_22 : chkSk pcX (accL G 0 64 af3.res BI LHs TXs LH_22) skL_22 ML_22 LH_22.pc = true := by kernel_rfl
theorem hL_22_0 : chkL pcX (accL G 0 64 af3.res BI LHs TXs LH_22) (ML_22.go ([true, true])) (ML_22.pcGo ([true, true]) LH_22.pc) = true := by kernel_rfl
theorem hL_22_1 : chkL pcX (accL G 0 64 af3.res BI LHs TXs LH_22) (ML_22.go ([true, false, true])) (ML_22.pcGo ([true, false, true]) LH_22.pc) = true := by kernel_rfl
theorem hL_22_2 : chkL pcX (accL G 0 64 af3.res BI LHs TXs LH_22) (ML_22.go ([true, false, false, true])) (ML_22.pcGo ([true, false, false, true]) LH_22.pc) = true := by kernel_rfl
theorem hL_22_3 : chkL pcX (accL G 0 64 af3.res BI LHs TXs LH_22) (ML_22.go ([true, false, false, false])) (ML_22.pcGo ([true, false, false, false]) LH_22.pc) = true := by kernel_rfl
theorem hL_22_4 : chkL pcX (accL G 0 64 af3.res BI LHs TXs LH_22) (ML_22.go ([false])) (ML_22.pcGo ([false]) LH_22.pc) = true := by kernel_rfl
theorem scL_23 : chkSk pcX (accL G 0 64 af3.res BI LHs TXs LH_23) skL_23 ML_23 LH_23.pc = true := by kernel_rfl
theorem hL_23_0 : chkL pcX (accL G 0 64 af3.res BI LHs TXs LH_23) (ML_23.go ([true, true])) (ML_23.pcGo ([true, true]) LH_23.pc) = true := by kernel_rfl
theorem hL_23_1 : chkL pcX (accL G 0 64 af3.res BI LHs TXs LH_23) (ML_23.go ([true, false, true])) (ML_23.pcGo ([true, false, true]) LH_23.pc) = true := by kernel_rfl
end Go.Proofs.Ytagaclifeoiepaa.homeAlone

/- Checks for HomeAlone. No condition. -/
import Derived.Test.YtagaclifeoiepaaQHomeAlone
namespace Go.Proofs.Ytagaclifeoiepaa.homeAlone
open Go.Sx Go.ChangeShapes Go.WideShapes Go.ChangeAt Go.RowKit
set_option linter.unusedVariables false
set_option linter.unusedSimpArgs false
set_option maxRecDepth 1000000
theorem hL_26_4 : chkL pcX (accL G 0 64 af3.res BI LHs TXs LH_26) (ML_26.go ([false])) (ML_26.pcGo ([false]) LH_26.pc) = true := by kernel_rfl
theorem scL_27 : chkSk pcX (accL G 0 64 af3.res BI LHs TXs LH_27) skL_27 ML_27 LH_27.pc = true := by kernel_rfl
theorem hL_27_0 : chkL pcX (accL G 0 64 af3.res BI LHs TXs LH_27) (ML_27.go ([true, true])) (ML_27.pcGo ([true, true]) LH_27.pc) = true := by kernel_rfl
theorem hL_27_1 : chkL pcX (accL G 0 64 af3.res BI LHs TXs LH_27) (ML_27.go ([true, false, true])) (ML_27.pcGo ([true, false, true]) LH_27.pc) = true := by kernel_rfl
theorem hL_27_2 : chkL pcX (accL G 0 64 af3.res BI LHs TXs LH_27) (ML_27.go ([true, false, false, true])) (ML_27.pcGo ([true, false, false, true]) LH_27.pc) = true := by kernel_rfl
theorem hL_27_3 : chkL pcX (accL G 0 64 af3.res BI LHs TXs LH_27) (ML_27.go ([true, false, false, false])) (ML_27.pcGo ([true, false, false, false]) LH_27.pc) = true := by kernel_rfl
theorem hL_27_4 : chkL pcX (accL G 0 64 af3.res BI LHs TXs LH_27) (ML_27.go ([false])) (ML_27.pcGo ([false]) LH_27.pc) = true := by kernel_rfl
theorem scL_28 : chkSk pcX (accL G 0 64 af3.res BI LHs TXs LH_28) skL_28 ML_28 LH_28.pc = true := by kernel_rfl
theorem hL_28_0 : chkL pcX (accL G 0 64 af3.res BI LHs TXs LH_28) (ML_28.go ([true, true])) (ML_28.pcGo ([true, true]) LH_28.pc) = true := by kernel_rfl
theorem hL_28_1 : chkL pcX (accL G 0 64 af3.res BI LHs TXs LH_28) (ML_28.go ([true, false, true])) (ML_28.pcGo ([true, false, true]) LH_28.pc) = true := by kernel_rfl
theorem hL_28_2 : chkL pcX (accL G 0 64 af3.res BI LHs TXs LH_28) (ML_28.go ([true, false, false, true])) (ML_28.pcGo ([true, false, false, true]) LH_28.pc) = true := by kernel_rfl
theorem hL_28_3 : chkL pcX (accL G 0 64 af3.res BI LHs TXs LH_28) (ML_28.go ([true, false, false, false])) (ML_28.pcGo ([true, false, false, false]) LH_28.pc) = true := by kernel_rfl
theorem hL_28_4 : chkL pcX (accL G 0 64 af3.res BI LHs TXs LH_28) (ML_28.go ([false])) (ML_28.pcGo ([false]) LH_28.pc) = true := by kernel_rfl
theorem scL_29 : chkSk pcX (accL G 0 64 af3.res BI LHs TXs LH_29) skL_29 ML_29 LH_29.pc = true := by kernel_rfl
theorem hL_29_0 : chkL pcX (accL G 0 64 af3.res BI LHs TXs LH_29) (ML_29.go ([true, true])) (ML_29.pcGo ([true, true]) LH_29.pc) = true := by kernel_rfl
theorem hL_29_1 : chkL pcX (accL G 0 64 af3.res BI LHs TXs LH_29) (ML_29.go ([true, false, true])) (ML_29.pcGo ([true, false, true]) LH_29.pc) = true := by kernel_rfl
theorem hL_29_2 : chkL pcX (accL G 0 64 af3.res BI LHs TXs LH_29) (ML_29.go ([true, false, false, true])) (ML_29.pcGo ([true, false, false, true]) LH_29.pc) = true := by kernel_rfl
theorem hL_29_3 : chkL pcX (accL G 0 64 af3.res BI LHs TXs LH_29) (ML_29.go ([true, false, false, false])) (ML_29.pcGo ([true, false, false, false]) LH_29.pc) = true := by kernel_rfl
theorem hL_29_4 : chkL pcX (accL G 0 64 af3.res BI LHs TXs LH_29) (ML_29.go ([false])) (ML_29.pcGo ([false]) LH_29.pc) = true := by kernel_rfl
theorem scL_30 : chkSk pcX (accL G 0 64 af3.res BI LHs TXs LH_30) skL_30 ML_30 LH_30.pc = true := by kernel_rfl
end Go.Proofs.Ytagaclifeoiepaa.homeAlone

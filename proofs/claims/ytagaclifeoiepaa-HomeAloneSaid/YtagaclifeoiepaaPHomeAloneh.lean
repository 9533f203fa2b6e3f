/- Checks for HomeAlone. No condition. -/
import Derived.Test.YtagaclifeoiepaaQHomeAlone
namespace Go.Proofs.Ytagaclifeoiepaa.homeAlone
open Go.Sx Go.ChangeShapes Go.WideShapes Go.ChangeAt Go.RowKit
set_option linter.unusedVariables false
set_option linter.unusedSimpArgs false
set_option maxRecDepth 1000000
theorem hL_23_2 : chkL pcX (accL G 0 64 af3.res BI LHs TXs LH_23) (ML_23.go ([true, false, false, true])) (ML_23.pcGo ([true, false, false, true]) LH_23.pc) = true := by kernel_rfl
theorem hL_23_3 : chkL pcX (accL G 0 64 af3.res BI LHs TXs LH_23) (ML_23.go ([true, false, false, false])) (ML_23.pcGo ([true, false, false, false]) LH_23.pc) = true := by kernel_rfl
theorem hL_23_4 : chkL pcX (accL G 0 64 af3.res BI LHs TXs LH_23) (ML_23.go ([false])) (ML_23.pcGo ([false]) LH_23.pc) = true := by kernel_rfl
theorem scL_24 : chkSk pcX (accL G 0 64 af3.res BI LHs TXs LH_24) skL_24 ML_24 LH_24.pc = true := by kernel_rfl
theorem hL_24_0 : chkL pcX (accL G 0 64 af3.res BI LHs TXs LH_24) (ML_24.go ([true, true])) (ML_24.pcGo ([true, true]) LH_24.pc) = true := by kernel_rfl
theorem hL_24_1 : chkL pcX (accL G 0 64 af3.res BI LHs TXs LH_24) (ML_24.go ([true, false, true])) (ML_24.pcGo ([true, false, true]) LH_24.pc) = true := by kernel_rfl
theorem hL_24_2 : chkL pcX (accL G 0 64 af3.res BI LHs TXs LH_24) (ML_24.go ([true, false, false, true])) (ML_24.pcGo ([true, false, false, true]) LH_24.pc) = true := by kernel_rfl
theorem hL_24_3 : chkL pcX (accL G 0 64 af3.res BI LHs TXs LH_24) (ML_24.go ([true, false, false, false])) (ML_24.pcGo ([true, false, false, false]) LH_24.pc) = true := by kernel_rfl
theorem hL_24_4 : chkL pcX (accL G 0 64 af3.res BI LHs TXs LH_24) (ML_24.go ([false])) (ML_24.pcGo ([false]) LH_24.pc) = true := by kernel_rfl
theorem scL_25 : chkSk pcX (accL G 0 64 af3.res BI LHs TXs LH_25) skL_25 ML_25 LH_25.pc = true := by kernel_rfl
theorem hL_25_0 : chkL pcX (accL G 0 64 af3.res BI LHs TXs LH_25) (ML_25.go ([true, true])) (ML_25.pcGo ([true, true]) LH_25.pc) = true := by kernel_rfl
theorem hL_25_1 : chkL pcX (accL G 0 64 af3.res BI LHs TXs LH_25) (ML_25.go ([true, false, true])) (ML_25.pcGo ([true, false, true]) LH_25.pc) = true := by kernel_rfl
theorem hL_25_2 : chkL pcX (accL G 0 64 af3.res BI LHs TXs LH_25) (ML_25.go ([true, false, false, true])) (ML_25.pcGo ([true, false, false, true]) LH_25.pc) = true := by kernel_rfl
theorem hL_25_3 : chkL pcX (accL G 0 64 af3.res BI LHs TXs LH_25) (ML_25.go ([true, false, false, false])) (ML_25.pcGo ([true, false, false, false]) LH_25.pc) = true := by kernel_rfl
theorem hL_25_4 : chkL pcX (accL G 0 64 af3.res BI LHs TXs LH_25) (ML_25.go ([false])) (ML_25.pcGo ([false]) LH_25.pc) = true := by kernel_rfl
theorem scL_26 : chkSk pcX (accL G 0 64 af3.res BI LHs TXs LH_26) skL_26 ML_26 LH_26.pc = true := by kernel_rfl
theorem hL_26_0 : chkL pcX (accL G 0 64 af3.res BI LHs TXs LH_26) (ML_26.go ([true, true])) (ML_26.pcGo ([true, true]) LH_26.pc) = true := by kernel_rfl
theorem hL_26_1 : chkL pcX (accL G 0 64 af3.res BI LHs TXs LH_26) (ML_26.go ([true, false, true])) (ML_26.pcGo ([true, false, true]) LH_26.pc) = true := by kernel_rfl
theorem hL_26_2 : chkL pcX (accL G 0 64 af3.res BI LHs TXs LH_26) (ML_26.go ([true, false, false, true])) (ML_26.pcGo ([true, false, false, true]) LH_26.pc) = true := by kernel_rfl
theorem hL_26_3 : chkL pcX (accL G 0 64 af3.res BI LHs TXs LH_26) (ML_26.go ([true, false, false, false])) (ML_26.pcGo ([true, false, false, false]) LH_26.pc) = true := by kernel_rfl
end Go.Proofs.Ytagaclifeoiepaa.homeAlone

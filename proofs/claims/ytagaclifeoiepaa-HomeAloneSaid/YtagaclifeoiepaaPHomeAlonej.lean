/- Checks for HomeAlone. No condition. -/
import Derived.Test.YtagaclifeoiepaaQHomeAlone
namespace Go.Proofs.Ytagaclifeoiepaa.homeAlone
open Go.Sx Go.ChangeShapes Go.WideShapes Go.ChangeAt Go.RowKit
set_option linter.unusedVariables false
set_option linter.unusedSimpArgs false
set_option maxRecDepth 1000000
theorem hL_30_0 : chkL pcX (accL G 0 64 af3.res BI LHs TXs LH_30) (ML_30.go ([true, true])) (ML_30.pcGo ([true, true]) LH_30.pc) = true := by kernel_rfl
theorem hL_30_1 : chkL pcX (accL G 0 64 af3.res BI LHs TXs LH_30) (ML_30.go ([true, false, true])) (ML_30.pcGo ([true, false, true]) LH_30.pc) = true := by kernel_rfl
theorem hL_30_2 : chkL pcX (accL G 0 64 af3.res BI LHs TXs LH_30) (ML_30.go ([true, false, false, true])) (ML_30.pcGo ([true, false, false, true]) LH_30.pc) = true := by kernel_rfl
theorem hL_30_3 : chkL pcX (accL G 0 64 af3.res BI LHs TXs LH_30) (ML_30.go ([true, false, false, false])) (ML_30.pcGo ([true, false, false, false]) LH_30.pc) = true := by kernel_rfl
theorem hL_30_4 : chkL pcX (accL G 0 64 af3.res BI LHs TXs LH_30) (ML_30.go ([false])) (ML_30.pcGo ([false]) LH_30.pc) = true := by kernel_rfl
theorem scL_31 : chkSk pcX (accL G 0 64 af3.res BI LHs TXs LH_31) skL_31 ML_31 LH_31.pc = true := by kernel_rfl
theorem hL_31_0 : chkL pcX (accL G 0 64 af3.res BI LHs TXs LH_31) (ML_31.go ([true, true])) (ML_31.pcGo ([true, true]) LH_31.pc) = true := by kernel_rfl
theorem hL_31_1 : chkL pcX (accL G 0 64 af3.res BI LHs TXs LH_31) (ML_31.go ([true, false, true])) (ML_31.pcGo ([true, false, true]) LH_31.pc) = true := by kernel_rfl
theorem hL_31_2 : chkL pcX (accL G 0 64 af3.res BI LHs TXs LH_31) (ML_31.go ([true, false, false, true])) (ML_31.pcGo ([true, false, false, true]) LH_31.pc) = true := by kernel_rfl
theorem hL_31_3 : chkL pcX (accL G 0 64 af3.res BI LHs TXs LH_31) (ML_31.go ([true, false, false, false])) (ML_31.pcGo ([true, false, false, false]) LH_31.pc) = true := by kernel_rfl
theorem hL_31_4 : chkL pcX (accL G 0 64 af3.res BI LHs TXs LH_31) (ML_31.go ([false])) (ML_31.pcGo ([false]) LH_31.pc) = true := by kernel_rfl
theorem scL_32 : chkSk pcX (accL G 0 64 af3.res BI LHs TXs LH_32) skL_32 ML_32 LH_32.pc = true := by kernel_rfl
theorem hL_32_0 : chkL pcX (accL G 0 64 af3.res BI LHs TXs LH_32) (ML_32.go ([true, true])) (ML_32.pcGo ([true, true]) LH_32.pc) = true := by kernel_rfl
theorem hL_32_1 : chkL pcX (accL G 0 64 af3.res BI LHs TXs LH_32) (ML_32.go ([true, false, true])) (ML_32.pcGo ([true, false, true]) LH_32.pc) = true := by kernel_rfl
theorem hL_32_2 : chkL pcX (accL G 0 64 af3.res BI LHs TXs LH_32) (ML_32.go ([true, false, false, true])) (ML_32.pcGo ([true, false, false, true]) LH_32.pc) = true := by kernel_rfl
theorem hL_32_3 : chkL pcX (accL G 0 64 af3.res BI LHs TXs LH_32) (ML_32.go ([true, false, false, false])) (ML_32.pcGo ([true, false, false, false]) LH_32.pc) = true := by kernel_rfl
theorem hL_32_4 : chkL pcX (accL G 0 64 af3.res BI LHs TXs LH_32) (ML_32.go ([false])) (ML_32.pcGo ([false]) LH_32.pc) = true := by kernel_rfl
theorem scL_33 : chkSk pcX (accL G 0 64 af3.res BI LHs TXs LH_33) skL_33 ML_33 LH_33.pc = true := by kernel_rfl
theorem hL_33_0 : chkL pcX (accL G 0 64 af3.res BI LHs TXs LH_33) (ML_33.go ([true, true])) (ML_33.pcGo ([true, true]) LH_33.pc) = true := by kernel_rfl
theorem hL_33_1 : chkL pcX (accL G 0 64 af3.res BI LHs TXs LH_33) (ML_33.go ([true, false, true])) (ML_33.pcGo ([true, false, true]) LH_33.pc) = true := by kernel_rfl
end Go.Proofs.Ytagaclifeoiepaa.homeAlone

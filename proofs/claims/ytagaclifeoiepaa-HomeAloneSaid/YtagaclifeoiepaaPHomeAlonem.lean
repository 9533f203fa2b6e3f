/- Checks for HomeAlone. No condition. -/
import Derived.Test.YtagaclifeoiepaaQHomeAlone
namespace Go.Proofs.Ytagaclifeoiepaa.homeAlone
open Go.Sx Go.ChangeShapes Go.WideShapes Go.ChangeAt Go.RowKit
set_option linter.unusedVariables false
set_option linter.unusedSimpArgs false
set_option maxRecDepth 1000000
theorem hL_40_0 : chkL pcX (accL G 0 64 af3.res BI LHs TXs LH_40) (ML_40.go ([true, true])) (ML_40.pcGo ([true, true]) LH_40.pc) = true := by kernel_rfl
theorem hL_40_1 : chkL pcX (accL G 0 64 af3.res BI LHs TXs LH_40) (ML_40.go ([true, false, true])) (ML_40.pcGo ([true, false, true]) LH_40.pc) = true := by kernel_rfl
theorem hL_40_2 : chkL pcX (accL G 0 64 af3.res BI LHs TXs LH_40) (ML_40.go ([true, false, false, true])) (ML_40.pcGo ([true, false, false, true]) LH_40.pc) = true := by kernel_rfl
theorem hL_40_3 : chkL pcX (accL G 0 64 af3.res BI LHs TXs LH_40) (ML_40.go ([true, false, false, false])) (ML_40.pcGo ([true, false, false, false]) LH_40.pc) = true := by kernel_rfl
theorem hL_40_4 : chkL pcX (accL G 0 64 af3.res BI LHs TXs LH_40) (ML_40.go ([false])) (ML_40.pcGo ([false]) LH_40.pc) = true := by kernel_rfl
theorem scL_41 : chkSk pcX (accL G 0 64 af3.res BI LHs TXs LH_41) skL_41 ML_41 LH_41.pc = true := by kernel_rfl
theorem hL_41_0 : chkL pcX (accL G 0 64 af3.res BI LHs TXs LH_41) (ML_41.go ([true, true])) (ML_41.pcGo ([true, true]) LH_41.pc) = true := by kernel_rfl
theorem hL_41_1 : chkL pcX (accL G 0 64 af3.res BI LHs TXs LH_41) (ML_41.go ([true, false, true])) (ML_41.pcGo ([true, false, true]) LH_41.pc) = true := by kernel_rfl
theorem hL_41_2 : chkL pcX (accL G 0 64 af3.res BI LHs TXs LH_41) (ML_41.go ([true, false, false, true])) (ML_41.pcGo ([true, false, false, true]) LH_41.pc) = true := by kernel_rfl
theorem hL_41_3 : chkL pcX (accL G 0 64 af3.res BI LHs TXs LH_41) (ML_41.go ([true, false, false, false])) (ML_41.pcGo ([true, false, false, false]) LH_41.pc) = true := by kernel_rfl
theorem hL_41_4 : chkL pcX (accL G 0 64 af3.res BI LHs TXs LH_41) (ML_41.go ([false])) (ML_41.pcGo ([false]) LH_41.pc) = true := by kernel_rfl
theorem scL_42 : chkSk pcX (accL G 0 64 af3.res BI LHs TXs LH_42) skL_42 ML_42 LH_42.pc = true := by kernel_rfl
theorem hL_42_0 : chkL pcX (accL G 0 64 af3.res BI LHs TXs LH_42) (ML_42.go ([true, true])) (ML_42.pcGo ([true, true]) LH_42.pc) = true := by kernel_rfl
theorem hL_42_1 : chkL pcX (accL G 0 64 af3.res BI LHs TXs LH_42) (ML_42.go ([true, false, true])) (ML_42.pcGo ([true, false, true]) LH_42.pc) = true := by kernel_rfl
theorem hL_42_2 : chkL pcX (accL G 0 64 af3.res BI LHs TXs LH_42) (ML_42.go ([true, false, false, true])) (ML_42.pcGo ([true, false, false, true]) LH_42.pc) = true := by kernel_rfl
theorem hL_42_3 : chkL pcX (accL G 0 64 af3.res BI LHs TXs LH_42) (ML_42.go ([true, false, false, false])) (ML_42.pcGo ([true, false, false, false]) LH_42.pc) = true := by kernel_rfl
theorem hL_42_4 : chkL pcX (accL G 0 64 af3.res BI LHs TXs LH_42) (ML_42.go ([false])) (ML_42.pcGo ([false]) LH_42.pc) = true := by kernel_rfl
theorem scL_43 : chkSk pcX (accL G 0 64 af3.res BI LHs TXs LH_43) skL_43 ML_43 LH_43.pc = true := by kernel_rfl
theorem hL_43_0 : chkL pcX (accL G 0 64 af3.res BI LHs TXs LH_43) (ML_43.go ([true, true])) (ML_43.pcGo ([true, true]) LH_43.pc) = true := by kernel_rfl
theorem hL_43_1 : chkL pcX (accL G 0 64 af3.res BI LHs TXs LH_43) (ML_43.go ([true, false, true])) (ML_43.pcGo ([true, false, true]) LH_43.pc) = true := by kernel_rfl
end Go.Proofs.Ytagaclifeoiepaa.homeAlone

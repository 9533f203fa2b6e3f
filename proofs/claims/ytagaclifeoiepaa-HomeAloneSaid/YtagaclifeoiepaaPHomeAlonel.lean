/- Checks for HomeAlone. No condition. -/
import Derived.Test.YtagaclifeoiepaaQHomeAlone
namespace Go.Proofs.Ytagaclifeoiepaa.homeAlone
open Go.Sx Go.ChangeShapes Go.WideShapes Go.ChangeAt Go.RowKit
set_option linter.unusedVariables false
set_option linter.unusedSimpArgs false
set_option maxRecDepth 1000000
theorem hL_36_4 : chkL pcX (accL G 0 64 af3.res BI LHs TXs LH_36) (ML_36.go ([false])) (ML_36.pcGo ([false]) LH_36.pc) = true := by kernel_rfl
theorem scL_37 : chkSk pcX (accL G 0 64 af3.res BI LHs TXs LH_37) skL_37 ML_37 LH_37.pc = true := by kernel_rfl
theorem hL_37_0 : chkL pcX (accL G 0 64 af3.res BI LHs TXs LH_37) (ML_37.go ([true, true])) (ML_37.pcGo ([true, true]) LH_37.pc) = true := by kernel_rfl
theorem hL_37_1 : chkL pcX (accL G 0 64 af3.res BI LHs TXs LH_37) (ML_37.go ([true, false, true])) (ML_37.pcGo ([true, false, true]) LH_37.pc) = true := by kernel_rfl
theorem hL_37_2 : chkL pcX (accL G 0 64 af3.res BI LHs TXs LH_37) (ML_37.go ([true, false, false, true])) (ML_37.pcGo ([true, false, false, true]) LH_37.pc) = true := by kernel_rfl
theorem hL_37_3 : chkL pcX (accL G 0 64 af3.res BI LHs TXs LH_37) (ML_37.go ([true, false, false, false])) (ML_37.pcGo ([true, false, false, false]) LH_37.pc) = true := by kernel_rfl
theorem hL_37_4 : chkL pcX (accL G 0 64 af3.res BI LHs TXs LH_37) (ML_37.go ([false])) (ML_37.pcGo ([false]) LH_37.pc) = true := by kernel_rfl
theorem scL_38 : chkSk pcX (accL G 0 64 af3.res BI LHs TXs LH_38) skL_38 ML_38 LH_38.pc = true := by kernel_rfl
theorem hL_38_0 : chkL pcX (accL G 0 64 af3.res BI LHs TXs LH_38) (ML_38.go ([true, true])) (ML_38.pcGo ([true, true]) LH_38.pc) = true := by kernel_rfl
theorem hL_38_1 : chkL pcX (accL G 0 64 af3.res BI LHs TXs LH_38) (ML_38.go ([true, false, true])) (ML_38.pcGo ([true, false, true]) LH_38.pc) = true := by kernel_rfl
theorem hL_38_2 : chkL pcX (accL G 0 64 af3.res BI LHs TXs LH_38) (ML_38.go ([true, false, false, true])) (ML_38.pcGo ([true, false, false, true]) LH_38.pc) = true := by kernel_rfl
theorem hL_38_3 : chkL pcX (accL G 0 64 af3.res BI LHs TXs LH_38) (ML_38.go ([true, false, false, false])) (ML_38.pcGo ([true, false, false, false]) LH_38.pc) = true := by kernel_rfl
theorem hL_38_4 : chkL pcX (accL G 0 64 af3.res BI LHs TXs LH_38) (ML_38.go ([false])) (ML_38.pcGo ([false]) LH_38.pc) = true := by kernel_rfl
theorem scL_39 : chkSk pcX (accL G 0 64 af3.res BI LHs TXs LH_39) skL_39 ML_39 LH_39.pc = true := by kernel_rfl
theorem hL_39_0 : chkL pcX (accL G 0 64 af3.res BI LHs TXs LH_39) (ML_39.go ([true, true])) (ML_39.pcGo ([true, true]) LH_39.pc) = true := by kernel_rfl
theorem hL_39_1 : chkL pcX (accL G 0 64 af3.res BI LHs TXs LH_39) (ML_39.go ([true, false, true])) (ML_39.pcGo ([true, false, true]) LH_39.pc) = true := by kernel_rfl
theorem hL_39_2 : chkL pcX (accL G 0 64 af3.res BI LHs TXs LH_39) (ML_39.go ([true, false, false, true])) (ML_39.pcGo ([true, false, false, true]) LH_39.pc) = true := by kernel_rfl
theorem hL_39_3 : chkL pcX (accL G 0 64 af3.res BI LHs TXs LH_39) (ML_39.go ([true, false, false, false])) (ML_39.pcGo ([true, false, false, false]) LH_39.pc) = true := by kernel_rfl
theorem hL_39_4 : chkL pcX (accL G 0 64 af3.res BI LHs TXs LH_39) (ML_39.go ([false])) (ML_39.pcGo ([false]) LH_39.pc) = true := by kernel_rfl
theorem scL_40 : chkSk pcX (accL G 0 64 af3.res BI LHs TXs LH_40) skL_40 ML_40 LH_40.pc = true := by kernel_rfl
end Go.Proofs.Ytagaclifeoiepaa.homeAlone

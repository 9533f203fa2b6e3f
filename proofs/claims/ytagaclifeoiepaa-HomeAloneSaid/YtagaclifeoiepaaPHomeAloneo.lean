/- Checks for HomeAlone. No condition. -/
import Derived.Test.YtagaclifeoiepaaQHomeAlone
namespace Go.Proofs.Ytagaclifeoiepaa.homeAlone
open Go.Sx Go.ChangeShapes Go.WideShapes Go.ChangeAt Go.RowKit
set_option linter.unusedVariables false
set_option linter.unusedSimpArgs false
set_option maxRecDepth 1000000
theorem hL_46_4 : chkL pcX (accL G 0 64 af3.res BI LHs TXs LH_46) (ML_46.go ([false])) (ML_46.pcGo ([false]) LH_46.pc) = true := by kernel_rfl
theorem scL_47 : chkSk pcX (accL G 0 64 af3.res BI LHs TXs LH_47) skL_47 ML_47 LH_47.pc = true := by kernel_rfl
theorem hL_47_0 : chkL pcX (accL G 0 64 af3.res BI LHs TXs LH_47) (ML_47.go ([true, true])) (ML_47.pcGo ([true, true]) LH_47.pc) = true := by kernel_rfl
theorem hL_47_1 : chkL pcX (accL G 0 64 af3.res BI LHs TXs LH_47) (ML_47.go ([true, false, true])) (ML_47.pcGo ([true, false, true]) LH_47.pc) = true := by kernel_rfl
theorem hL_47_2 : chkL pcX (accL G 0 64 af3.res BI LHs TXs LH_47) (ML_47.go ([true, false, false, true])) (ML_47.pcGo ([true, false, false, true]) LH_47.pc) = true := by kernel_rfl
theorem hL_47_3 : chkL pcX (accL G 0 64 af3.res BI LHs TXs LH_47) (ML_47.go ([true, false, false, false])) (ML_47.pcGo ([true, false, false, false]) LH_47.pc) = true := by kernel_rfl
theorem hL_47_4 : chkL pcX (accL G 0 64 af3.res BI LHs TXs LH_47) (ML_47.go ([false])) (ML_47.pcGo ([false]) LH_47.pc) = true := by kernel_rfl
theorem ckX_0 : chkL pcX (accF G af3.res) MX_0 TX_0.pc = true := by kernel_rfl
end Go.Proofs.Ytagaclifeoiepaa.homeAlone

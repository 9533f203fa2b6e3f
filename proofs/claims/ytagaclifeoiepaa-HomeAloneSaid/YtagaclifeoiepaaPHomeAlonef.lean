/- Checks for HomeAlone. No condition. -/
import Derived.Test.YtagaclifeoiepaaQHomeAlone
namespace Go.Proofs.Ytagaclifeoiepaa.homeAlone
open Go.Sx Go.ChangeShapes Go.WideShapes Go.ChangeAt Go.RowKit
set_option linter.unusedVariables false
set_option linter.unusedSimpArgs false
set_option maxRecDepth 1000000
theorem hL_16_4 : chkL pcX (accL G 0 64 af3.res BI LHs TXs LH_16) (ML_16.go ([false])) (ML_16.pcGo ([false]) LH_16.pc) = true := by kernel_rfl
theorem scL_17 : chkSk pcX (accL G 0 64 af3.res BI LHs TXs LH_17) skL_17 ML_17 LH_17.pc = true := by kernel_rfl
theorem hL_17_0 : chkL pcX (accL G 0 64 af3.res BI LHs TXs LH_17) (ML_17.go ([true, true])) (ML_17.pcGo ([true, true]) LH_17.pc) = true := by kernel_rfl
theorem hL_17_1 : chkL pcX (accL G 0 64 af3.res BI LHs TXs LH_17) (ML_17.go ([true, false, true])) (ML_17.pcGo ([true, false, true]) LH_17.pc) = true := by kernel_rfl
theorem hL_17_2 : chkL pcX (accL G 0 64 af3.res BI LHs TXs LH_17) (ML_17.go ([true, false, false, true])) (ML_17.pcGo ([true, false, false, true]) LH_17.pc) = true := by kernel_rfl
theorem hL_17_3 : chkL pcX (accL G 0 64 af3.res BI LHs TXs LH_17) (ML_17.go ([true, false, false, false])) (ML_17.pcGo ([true, false, false, false]) LH_17.pc) = true := by kernel_rfl
theorem hL_17_4 : chkL pcX (accL G 0 64 af3.res BI LHs TXs LH_17) (ML_17.go ([false])) (ML_17.pcGo ([false]) LH_17.pc) = true := by kernel_rfl
theorem scL_18 : chkSk pcX (accL G 0 64 af3.res BI LHs TXs LH_18) skL_18 ML_18 LH_18.pc = true := by kernel_rfl
theorem hL_18_0 : chkL pcX (accL G 0 64 af3.res BI LHs TXs LH_18) (ML_18.go ([true, true])) (ML_18.pcGo ([true, true]) LH_18.pc) = true := by kernel_rfl
theorem hL_18_1 : chkL pcX (accL G 0 64 af3.res BI LHs TXs LH_18) (ML_18.go ([true, false, true])) (ML_18.pcGo ([true, false, true]) LH_18.pc) = true := by kernel_rfl
theorem hL_18_2 : chkL pcX (accL G 0 64 af3.res BI LHs TXs LH_18) (ML_18.go ([true, false, false, true])) (ML_18.pcGo ([true, false, false, true]) LH_18.pc) = true := by kernel_rfl
theorem hL_18_3 : chkL pcX (accL G 0 64 af3.res BI LHs TXs LH_18) (ML_18.go ([true, false, false, false])) (ML_18.pcGo ([true, false, false, false]) LH_18.pc) = true := by kernel_rfl
theorem hL_18_4 : chkL pcX (accL G 0 64 af3.res BI LHs TXs LH_18) (ML_18.go ([false])) (ML_18.pcGo ([false]) LH_18.pc) = true := by kernel_rfl
theorem scL_19 : chkSk pcX (accL G 0 64 af3.res BI LHs TXs LH_19) skL_19 ML_19 LH_19.pc = true := by kernel_rfl
theorem hL_19_0 : chkL pcX (accL G 0 64 af3.res BI LHs TXs LH_19) (ML_19.go ([true, true])) (ML_19.pcGo ([true, true]) LH_19.pc) = true := by kernel_rfl
theorem hL_19_1 : chkL pcX (accL G 0 64 af3.res BI LHs TXs LH_19) (ML_19.go ([true, false, true])) (ML_19.pcGo ([true, false, true]) LH_19.pc) = true := by kernel_rfl
theorem hL_19_2 : chkL pcX (accL G 0 64 af3.res BI LHs TXs LH_19) (ML_19.go ([true, false, false, true])) (ML_19.pcGo ([true, false, false, true]) LH_19.pc) = true := by kernel_rfl
theorem hL_19_3 : chkL pcX (accL G 0 64 af3.res BI LHs TXs LH_19) (ML_19.go ([true, false, false, false])) (ML_19.pcGo ([true, false, false, false]) LH_19.pc) = true := by kernel_rfl
theorem hL_19_4 : chkL pcX (accL G 0 64 af3.res BI LHs TXs LH_19) (ML_19.go ([false])) (ML_19.pcGo ([false]) LH_19.pc) = true := by kernel_rfl
theorem scL_20 : chkSk pcX (accL G 0 64 af3.res BI LHs TXs LH_20) skL_20 ML_20 LH_20.pc = true := by kernel_rfl
end Go.Proofs.Ytagaclifeoiepaa.homeAlone

/- Checks for HomeAlone. No condition. -/
import Derived.Test.YtagaclifeoiepaaQHomeAlone
namespace Go.Proofs.Ytagaclifeoiepaa.homeAlone
open Go.Sx Go.ChangeShapes Go.WideShapes Go.ChangeAt Go.RowKit
set_option linter.unusedVariables false
set_option linter.unusedSimpArgs false
set_option maxRecDepth 1000000
theorem hL_43_2 : chkL pcX (accL G 0 64 af3.res BI LHs TXs LH_43) (ML_43.go ([true, false, false, true])) (ML_43.pcGo ([true, false, false, true]) LH_43.pc) = true := by kernel_rfl
theorem hL_43_3 : chkL pcX (accL G 0 64 af3.res BI LHs TXs LH_43) (ML_43.go ([true, false, false, false])) (ML_43.pcGo ([true, false, false, false]) LH_43.pc) = true := by kernel_rfl
theorem hL_43_4 : chkL pcX (accL G 0 64 af3.res BI LHs TXs LH_43) (ML_43.go ([false])) (ML_43.pcGo ([false]) LH_43.pc) = true := by kernel_rfl
theorem scL_44 : chkSk pcX (accL G 0 64 af3.res BI LHs TXs LH_44) skL_44 ML_44 LH_44.pc = true := by kernel_rfl
theorem hL_44_0 : chkL pcX (accL G 0 64 af3.res BI LHs TXs LH_44) (ML_44.go ([true, true])) (ML_44.pcGo ([true, true]) LH_44.pc) = true := by kernel_rfl
theorem hL_44_1 : chkL pcX (accL G 0 64 af3.res BI LHs TXs LH_44) (ML_44.go ([true, false, true])) (ML_44.pcGo ([true, false, true]) LH_44.pc) = true := by kernel_rfl
theorem hL_44_2 : chkL pcX (accL G 0 64 af3.res BI LHs TXs LH_44) (ML_44.go ([true, false, false, true])) (ML_44.pcGo ([true, false, false, true]) LH_44.pc) = true := by kernel_rfl
theorem hL_44_3 : chkL pcX (accL G 0 64 af3.res BI LHs TXs LH_44) (ML_44.go ([true, false, false, false])) (ML_44.pcGo ([true, false, false, false]) LH_44.pc) = true := by kernel_rfl
theorem hL_44_4 : chkL pcX (accL G 0 64 af3.res BI LHs TXs LH_44) (ML_44.go ([false])) (ML_44.pcGo ([false]) LH_44.pc) = true := by kernel_rfl
theorem scL_45 : chkSk pcX (accL G 0 64 af3.res BI LHs TXs LH_45) skL_45 ML_45 LH_45.pc = true := by kernel_rfl
theorem hL_45_0 : chkL pcX (accL G 0 64 af3.res BI LHs TXs LH_45) (ML_45.go ([true, true])) (ML_45.pcGo ([true, true]) LH_45.pc) = true := by kernel_rfl
theorem hL_45_1 : chkL pcX (accL G 0 64 af3.res BI LHs TXs LH_45) (ML_45.go ([true, false, true])) (ML_45.pcGo ([true, false, true]) LH_45.pc) = true := by kernel_rfl
theorem hL_45_2 : chkL pcX (accL G 0 64 af3.res BI LHs TXs LH_45) (ML_45.go ([true, false, false, true])) (ML_45.pcGo ([true, false, false, true]) LH_45.pc) = true := by kernel_rfl
theorem hL_45_3 : chkL pcX (accL G 0 64 af3.res BI LHs TXs LH_45) (ML_45.go ([true, false, false, false])) (ML_45.pcGo ([true, false, false, false]) LH_45.pc) = true := by kernel_rfl
theorem hL_45_4 : chkL pcX (accL G 0 64 af3.res BI LHs TXs LH_45) (ML_45.go ([false])) (ML_45.pcGo ([false]) LH_45.pc) = true := by kernel_rfl
theorem scL_46 : chkSk pcX (accL G 0 64 af3.res BI LHs TXs LH_46) skL_46 ML_46 LH_46.pc = true := by kernel_rfl
theorem hL_46_0 : chkL pcX (accL G 0 64 af3.res BI LHs TXs LH_46) (ML_46.go ([true, true])) (ML_46.pcGo ([true, true]) LH_46.pc) = true := by kernel_rfl
theorem hL_46_1 : chkL pcX (accL G 0 64 af3.res BI LHs TXs LH_46) (ML_46.go ([true, false, true])) (ML_46.pcGo ([true, false, true]) LH_46.pc) = true := by kernel_rfl
theorem hL_46_2 : chkL pcX (accL G 0 64 af3.res BI LHs TXs LH_46) (ML_46.go ([true, false, false, true])) (ML_46.pcGo ([true, false, false, true]) LH_46.pc) = true := by kernel_rfl
theorem hL_46_3 : chkL pcX (accL G 0 64 af3.res BI LHs TXs LH_46) (ML_46.go ([true, false, false, false])) (ML_46.pcGo ([true, false, false, false]) LH_46.pc) = true := by kernel_rfl
end Go.Proofs.Ytagaclifeoiepaa.homeAlone

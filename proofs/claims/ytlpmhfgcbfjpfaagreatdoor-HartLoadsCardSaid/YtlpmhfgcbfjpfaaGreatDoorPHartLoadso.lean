/- Checks for HartLoads. No condition. -/
import Derived.Test.YtlpmhfgcbfjpfaaGreatDoorQHartLoads
namespace Go.Proofs.YtlpmhfgcbfjpfaaGreatDoor.hartLoads
open Go.Sx Go.ChangeShapes Go.WideShapes Go.ChangeAt Go.RowKit
set_option linter.unusedVariables false
set_option linter.unusedSimpArgs false
set_option maxRecDepth 1000000
theorem hF_5_0 : chkL pcX (accF G af6.res) (MF_5.go ([true, true])) (MF_5.pcGo ([true, true]) T4_5.pc) = true := by kernel_rfl
theorem hF_5_1 : chkL pcX (accF G af6.res) (MF_5.go ([true, false])) (MF_5.pcGo ([true, false]) T4_5.pc) = true := by kernel_rfl
theorem hF_5_2 : chkL pcX (accF G af6.res) (MF_5.go ([false])) (MF_5.pcGo ([false]) T4_5.pc) = true := by kernel_rfl
theorem scF_6 : chkSk pcX (accF G af6.res) skF_6 MF_6 T4_6.pc = true := by kernel_rfl
theorem hF_6_0 : chkL pcX (accF G af6.res) (MF_6.go ([true])) (MF_6.pcGo ([true]) T4_6.pc) = true := by kernel_rfl
end Go.Proofs.YtlpmhfgcbfjpfaaGreatDoor.hartLoads

/- Checks for HartLoads. No condition. -/
import Derived.Test.YtlpmhfgcbfjpfaaGreatDoorQHartLoads
namespace Go.Proofs.YtlpmhfgcbfjpfaaGreatDoor.hartLoads
open Go.Sx Go.ChangeShapes Go.WideShapes Go.ChangeAt Go.RowKit
set_option linter.unusedVariables false
set_option linter.unusedSimpArgs false
set_option maxRecDepth 1000000
theorem hF_6_1 : chkL pcX (accF G af6.res) (MF_6.go ([false])) (MF_6.pcGo ([false]) T4_6.pc) = true := by kernel_rfl
theorem scF_7 : chkSk pcX (accF G af6.res) skF_7 MF_7 T4_7.pc = true := by kernel_rfl
theorem hF_7_0 : chkL pcX (accF G af6.res) (MF_7.go ([true])) (MF_7.pcGo ([true]) T4_7.pc) = true := by kernel_rfl
theorem hF_7_1 : chkL pcX (accF G af6.res) (MF_7.go ([false])) (MF_7.pcGo ([false]) T4_7.pc) = true := by kernel_rfl
end Go.Proofs.YtlpmhfgcbfjpfaaGreatDoor.hartLoads

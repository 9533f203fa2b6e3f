/- Checks for HartBranches. No condition. -/
import Derived.Test.YtlpmhfgcbfjpfaaGreatDoorQHartBranches
namespace Go.Proofs.YtlpmhfgcbfjpfaaGreatDoor.hartBranches
open Go.Sx Go.ChangeShapes Go.WideShapes Go.ChangeAt Go.RowKit
set_option linter.unusedVariables false
set_option linter.unusedSimpArgs false
set_option maxRecDepth 1000000
theorem scF_1 : chkSk pcX (accF G af5.res) skF_1 MF_1 T4_1.pc = true := by kernel_rfl
theorem hF_1_0 : chkL pcX (accF G af5.res) (MF_1.go ([true, true])) (MF_1.pcGo ([true, true]) T4_1.pc) = true := by kernel_rfl
theorem hF_1_1 : chkL pcX (accF G af5.res) (MF_1.go ([true, false])) (MF_1.pcGo ([true, false]) T4_1.pc) = true := by kernel_rfl
end Go.Proofs.YtlpmhfgcbfjpfaaGreatDoor.hartBranches

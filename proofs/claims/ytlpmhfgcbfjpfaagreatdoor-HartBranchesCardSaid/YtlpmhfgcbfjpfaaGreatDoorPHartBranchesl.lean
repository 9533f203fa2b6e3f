/- Checks for HartBranches. No condition. -/
import Derived.Test.YtlpmhfgcbfjpfaaGreatDoorQHartBranches
namespace Go.Proofs.YtlpmhfgcbfjpfaaGreatDoor.hartBranches
open Go.Sx Go.ChangeShapes Go.WideShapes Go.ChangeAt Go.RowKit
set_option linter.unusedVariables false
set_option linter.unusedSimpArgs false
set_option maxRecDepth 1000000
theorem hF_1_2 : chkL pcX (accF G af5.res) (MF_1.go ([false, true, true])) (MF_1.pcGo ([false, true, true]) T4_1.pc) = true := by kernel_rfl
theorem hF_1_3 : chkL pcX (accF G af5.res) (MF_1.go ([false, true, false])) (MF_1.pcGo ([false, true, false]) T4_1.pc) = true := by kernel_rfl
theorem hF_1_4 : chkL pcX (accF G af5.res) (MF_1.go ([false, false, true, true])) (MF_1.pcGo ([false, false, true, true]) T4_1.pc) = true := by kernel_rfl
end Go.Proofs.YtlpmhfgcbfjpfaaGreatDoor.hartBranches

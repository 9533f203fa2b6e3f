/- Checks for HartBranches. No condition. -/
import Derived.Test.YtlpmhfgcbfjpfaaGreatDoorQHartBranches
namespace Go.Proofs.YtlpmhfgcbfjpfaaGreatDoor.hartBranches
open Go.Sx Go.ChangeShapes Go.WideShapes Go.ChangeAt Go.RowKit
set_option linter.unusedVariables false
set_option linter.unusedSimpArgs false
set_option maxRecDepth 1000000
theorem h3_1_3 : chkL pcX (accT G 2 64 af5.res Ts4) (M3_1.go ([false, false])) (M3_1.pcGo ([false, false]) T3_1.pc) = true := by kernel_rfl
theorem scF_0 : chkSk pcX (accF G af5.res) skF_0 MF_0 T4_0.pc = true := by kernel_rfl
theorem hF_0_0 : chkL pcX (accF G af5.res) (MF_0.go ([true, true])) (MF_0.pcGo ([true, true]) T4_0.pc) = true := by kernel_rfl
end Go.Proofs.YtlpmhfgcbfjpfaaGreatDoor.hartBranches

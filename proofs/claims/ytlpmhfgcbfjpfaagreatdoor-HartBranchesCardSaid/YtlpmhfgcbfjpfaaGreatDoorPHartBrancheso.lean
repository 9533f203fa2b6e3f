/- Checks for HartBranches. No condition. -/
import Derived.Test.YtlpmhfgcbfjpfaaGreatDoorQHartBranches
namespace Go.Proofs.YtlpmhfgcbfjpfaaGreatDoor.hartBranches
open Go.Sx Go.ChangeShapes Go.WideShapes Go.ChangeAt Go.RowKit
set_option linter.unusedVariables false
set_option linter.unusedSimpArgs false
set_option maxRecDepth 1000000
theorem hF_1_11 : chkL pcX (accF G af5.res) (MF_1.go (List.replicate 5 false ++ [true, false])) (MF_1.pcGo (List.replicate 5 false ++ [true, false]) T4_1.pc) = true := by kernel_rfl
theorem hF_1_12 : chkL pcX (accF G af5.res) (MF_1.go (List.replicate 6 false)) (MF_1.pcGo (List.replicate 6 false) T4_1.pc) = true := by kernel_rfl
end Go.Proofs.YtlpmhfgcbfjpfaaGreatDoor.hartBranches

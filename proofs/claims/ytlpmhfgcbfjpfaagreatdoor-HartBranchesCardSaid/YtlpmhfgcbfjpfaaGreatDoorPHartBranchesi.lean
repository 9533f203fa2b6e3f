/- Checks for HartBranches. No condition. -/
import Derived.Test.YtlpmhfgcbfjpfaaGreatDoorQHartBranches
namespace Go.Proofs.YtlpmhfgcbfjpfaaGreatDoor.hartBranches
open Go.Sx Go.ChangeShapes Go.WideShapes Go.ChangeAt Go.RowKit
set_option linter.unusedVariables false
set_option linter.unusedSimpArgs false
set_option maxRecDepth 1000000
theorem hF_0_7 : chkL pcX (accF G af5.res) (MF_0.go ([false, false, false, true, false])) (MF_0.pcGo ([false, false, false, true, false]) T4_0.pc) = true := by kernel_rfl
theorem hF_0_8 : chkL pcX (accF G af5.res) (MF_0.go (List.replicate 4 false ++ [true, true])) (MF_0.pcGo (List.replicate 4 false ++ [true, true]) T4_0.pc) = true := by kernel_rfl
theorem hF_0_9 : chkL pcX (accF G af5.res) (MF_0.go (List.replicate 4 false ++ [true, false])) (MF_0.pcGo (List.replicate 4 false ++ [true, false]) T4_0.pc) = true := by kernel_rfl
end Go.Proofs.YtlpmhfgcbfjpfaaGreatDoor.hartBranches

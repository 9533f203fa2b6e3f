/- Checks for HartReckons. No condition. -/
import Derived.Test.YtlpmhfgcbfjpfaaGreatDoorQHartReckons
namespace Go.Proofs.YtlpmhfgcbfjpfaaGreatDoor.hartReckons
open Go.Sx Go.ChangeShapes Go.WideShapes Go.ChangeAt Go.RowKit
set_option linter.unusedVariables false
set_option linter.unusedSimpArgs false
set_option maxRecDepth 1000000
theorem hF_0_11 : chkL pcX (accF G af4.res) (MF_0.go (List.replicate 11 false ++ [true])) (MF_0.pcGo (List.replicate 11 false ++ [true]) T4_0.pc) = true := by kernel_rfl
theorem hF_0_12 : chkL pcX (accF G af4.res) (MF_0.go (List.replicate 12 false ++ [true])) (MF_0.pcGo (List.replicate 12 false ++ [true]) T4_0.pc) = true := by kernel_rfl
theorem hF_0_13 : chkL pcX (accF G af4.res) (MF_0.go (List.replicate 13 false ++ [true])) (MF_0.pcGo (List.replicate 13 false ++ [true]) T4_0.pc) = true := by kernel_rfl
end Go.Proofs.YtlpmhfgcbfjpfaaGreatDoor.hartReckons

/- Checks for HartReckons. No condition. -/
import Derived.Test.YtlpmhfgcbfjpfaaGreatDoorQHartReckons
namespace Go.Proofs.YtlpmhfgcbfjpfaaGreatDoor.hartReckons
open Go.Sx Go.ChangeShapes Go.WideShapes Go.ChangeAt Go.RowKit
set_option linter.unusedVariables false
set_option linter.unusedSimpArgs false
set_option maxRecDepth 1000000
theorem h1_0_10 : chkL pcX (accT G 2 64 af4.res Ts2) (M1_0.go (List.replicate 10 false ++ [true])) (M1_0.pcGo (List.replicate 10 false ++ [true]) T1_0.pc) = true := by kernel_rfl
theorem h1_0_11 : chkL pcX (accT G 2 64 af4.res Ts2) (M1_0.go (List.replicate 11 false ++ [true])) (M1_0.pcGo (List.replicate 11 false ++ [true]) T1_0.pc) = true := by kernel_rfl
theorem h1_0_12 : chkL pcX (accT G 2 64 af4.res Ts2) (M1_0.go (List.replicate 12 false ++ [true])) (M1_0.pcGo (List.replicate 12 false ++ [true]) T1_0.pc) = true := by kernel_rfl
end Go.Proofs.YtlpmhfgcbfjpfaaGreatDoor.hartReckons

/- Checks for HartReckons. No condition. -/
import Derived.Test.YtlpmhfgcbfjpfaaGreatDoorQHartReckons
namespace Go.Proofs.YtlpmhfgcbfjpfaaGreatDoor.hartReckons
open Go.Sx Go.ChangeShapes Go.WideShapes Go.ChangeAt Go.RowKit
set_option linter.unusedVariables false
set_option linter.unusedSimpArgs false
set_option maxRecDepth 1000000
theorem h1_0_7 : chkL pcX (accT G 2 64 af4.res Ts2) (M1_0.go (List.replicate 7 false ++ [true])) (M1_0.pcGo (List.replicate 7 false ++ [true]) T1_0.pc) = true := by kernel_rfl
theorem h1_0_8 : chkL pcX (accT G 2 64 af4.res Ts2) (M1_0.go (List.replicate 8 false ++ [true])) (M1_0.pcGo (List.replicate 8 false ++ [true]) T1_0.pc) = true := by kernel_rfl
theorem h1_0_9 : chkL pcX (accT G 2 64 af4.res Ts2) (M1_0.go (List.replicate 9 false ++ [true])) (M1_0.pcGo (List.replicate 9 false ++ [true]) T1_0.pc) = true := by kernel_rfl
end Go.Proofs.YtlpmhfgcbfjpfaaGreatDoor.hartReckons

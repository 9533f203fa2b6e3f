/- Checks for HartLoads. No condition. -/
import Derived.Test.YtlpmhfgcbfjpfaaGreatDoorQHartLoads
namespace Go.Proofs.YtlpmhfgcbfjpfaaGreatDoor.hartLoads
open Go.Sx Go.ChangeShapes Go.WideShapes Go.ChangeAt Go.RowKit
set_option linter.unusedVariables false
set_option linter.unusedSimpArgs false
set_option maxRecDepth 1000000
theorem h1_0_3 : chkL pcX (accT G 2 64 af6.res Ts2) (M1_0.go ([false, true])) (M1_0.pcGo ([false, true]) T1_0.pc) = true := by kernel_rfl
theorem h1_0_4 : chkL pcX (accT G 2 64 af6.res Ts2) (M1_0.go ([false, false, true])) (M1_0.pcGo ([false, false, true]) T1_0.pc) = true := by kernel_rfl
theorem h1_0_5 : chkL pcX (accT G 2 64 af6.res Ts2) (M1_0.go ([false, false, false, true])) (M1_0.pcGo ([false, false, false, true]) T1_0.pc) = true := by kernel_rfl
theorem h1_0_6 : chkL pcX (accT G 2 64 af6.res Ts2) (M1_0.go (List.replicate 4 false ++ [true])) (M1_0.pcGo (List.replicate 4 false ++ [true]) T1_0.pc) = true := by kernel_rfl
theorem h1_0_7 : chkL pcX (accT G 2 64 af6.res Ts2) (M1_0.go (List.replicate 5 false ++ [true])) (M1_0.pcGo (List.replicate 5 false ++ [true]) T1_0.pc) = true := by kernel_rfl
end Go.Proofs.YtlpmhfgcbfjpfaaGreatDoor.hartLoads

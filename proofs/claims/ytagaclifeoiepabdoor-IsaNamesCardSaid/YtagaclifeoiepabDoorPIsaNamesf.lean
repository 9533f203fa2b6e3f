/- Checks for IsaNames. No condition. -/
import Derived.Test.YtagaclifeoiepabDoorQIsaNames
namespace Go.Proofs.YtagaclifeoiepabDoor.isaNames
open Go.Sx Go.ChangeShapes Go.WideShapes Go.ChangeAt Go.RowKit
set_option linter.unusedVariables false
set_option linter.unusedSimpArgs false
set_option maxRecDepth 1000000
theorem h2_0_22 : chkL pcX (accT G 22 64 af6.res Ts3) (M2_0.go (List.replicate 22 false ++ [true])) (M2_0.pcGo (List.replicate 22 false ++ [true]) T2_0.pc) = true := by kernel_rfl
theorem h2_0_23 : chkL pcX (accT G 22 64 af6.res Ts3) (M2_0.go (List.replicate 23 false ++ [true])) (M2_0.pcGo (List.replicate 23 false ++ [true]) T2_0.pc) = true := by kernel_rfl
theorem h2_0_24 : chkL pcX (accT G 22 64 af6.res Ts3) (M2_0.go (List.replicate 24 false ++ [true])) (M2_0.pcGo (List.replicate 24 false ++ [true]) T2_0.pc) = true := by kernel_rfl
theorem h2_0_25 : chkL pcX (accT G 22 64 af6.res Ts3) (M2_0.go (List.replicate 25 false ++ [true])) (M2_0.pcGo (List.replicate 25 false ++ [true]) T2_0.pc) = true := by kernel_rfl
theorem h2_0_26 : chkL pcX (accT G 22 64 af6.res Ts3) (M2_0.go (List.replicate 26 false ++ [true])) (M2_0.pcGo (List.replicate 26 false ++ [true]) T2_0.pc) = true := by kernel_rfl
theorem h2_0_27 : chkL pcX (accT G 22 64 af6.res Ts3) (M2_0.go (List.replicate 27 false ++ [true])) (M2_0.pcGo (List.replicate 27 false ++ [true]) T2_0.pc) = true := by kernel_rfl
theorem h2_0_28 : chkL pcX (accT G 22 64 af6.res Ts3) (M2_0.go (List.replicate 28 false ++ [true])) (M2_0.pcGo (List.replicate 28 false ++ [true]) T2_0.pc) = true := by kernel_rfl
theorem h2_0_29 : chkL pcX (accT G 22 64 af6.res Ts3) (M2_0.go (List.replicate 29 false ++ [true])) (M2_0.pcGo (List.replicate 29 false ++ [true]) T2_0.pc) = true := by kernel_rfl
theorem h2_0_30 : chkL pcX (accT G 22 64 af6.res Ts3) (M2_0.go (List.replicate 30 false ++ [true])) (M2_0.pcGo (List.replicate 30 false ++ [true]) T2_0.pc) = true := by kernel_rfl
theorem h2_0_31 : chkL pcX (accT G 22 64 af6.res Ts3) (M2_0.go (List.replicate 31 false ++ [true])) (M2_0.pcGo (List.replicate 31 false ++ [true]) T2_0.pc) = true := by kernel_rfl
theorem h2_0_32 : chkL pcX (accT G 22 64 af6.res Ts3) (M2_0.go (List.replicate 32 false ++ [true])) (M2_0.pcGo (List.replicate 32 false ++ [true]) T2_0.pc) = true := by kernel_rfl
theorem h2_0_33 : chkL pcX (accT G 22 64 af6.res Ts3) (M2_0.go (List.replicate 33 false ++ [true])) (M2_0.pcGo (List.replicate 33 false ++ [true]) T2_0.pc) = true := by kernel_rfl
theorem h2_0_34 : chkL pcX (accT G 22 64 af6.res Ts3) (M2_0.go (List.replicate 34 false ++ [true])) (M2_0.pcGo (List.replicate 34 false ++ [true]) T2_0.pc) = true := by kernel_rfl
theorem h2_0_35 : chkL pcX (accT G 22 64 af6.res Ts3) (M2_0.go (List.replicate 35 false ++ [true])) (M2_0.pcGo (List.replicate 35 false ++ [true]) T2_0.pc) = true := by kernel_rfl
theorem h2_0_36 : chkL pcX (accT G 22 64 af6.res Ts3) (M2_0.go (List.replicate 36 false ++ [true])) (M2_0.pcGo (List.replicate 36 false ++ [true]) T2_0.pc) = true := by kernel_rfl
theorem h2_0_37 : chkL pcX (accT G 22 64 af6.res Ts3) (M2_0.go (List.replicate 37 false ++ [true])) (M2_0.pcGo (List.replicate 37 false ++ [true]) T2_0.pc) = true := by kernel_rfl
theorem h2_0_38 : chkL pcX (accT G 22 64 af6.res Ts3) (M2_0.go (List.replicate 38 false ++ [true])) (M2_0.pcGo (List.replicate 38 false ++ [true]) T2_0.pc) = true := by kernel_rfl
theorem h2_0_39 : chkL pcX (accT G 22 64 af6.res Ts3) (M2_0.go (List.replicate 39 false ++ [true])) (M2_0.pcGo (List.replicate 39 false ++ [true]) T2_0.pc) = true := by kernel_rfl
end Go.Proofs.YtagaclifeoiepabDoor.isaNames

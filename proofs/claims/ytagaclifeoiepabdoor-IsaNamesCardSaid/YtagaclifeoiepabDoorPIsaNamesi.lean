/- Checks for IsaNames. No condition. -/
import Derived.Test.YtagaclifeoiepabDoorQIsaNames
namespace Go.Proofs.YtagaclifeoiepabDoor.isaNames
open Go.Sx Go.ChangeShapes Go.WideShapes Go.ChangeAt Go.RowKit
set_option linter.unusedVariables false
set_option linter.unusedSimpArgs false
set_option maxRecDepth 1000000
theorem h2_1_12 : chkL pcX (accT G 22 64 af6.res Ts3) (M2_1.go (List.replicate 12 false ++ [true])) (M2_1.pcGo (List.replicate 12 false ++ [true]) T2_1.pc) = true := by kernel_rfl
theorem h2_1_13 : chkL pcX (accT G 22 64 af6.res Ts3) (M2_1.go (List.replicate 13 false ++ [true])) (M2_1.pcGo (List.replicate 13 false ++ [true]) T2_1.pc) = true := by kernel_rfl
theorem h2_1_14 : chkL pcX (accT G 22 64 af6.res Ts3) (M2_1.go (List.replicate 14 false ++ [true])) (M2_1.pcGo (List.replicate 14 false ++ [true]) T2_1.pc) = true := by kernel_rfl
theorem h2_1_15 : chkL pcX (accT G 22 64 af6.res Ts3) (M2_1.go (List.replicate 15 false ++ [true])) (M2_1.pcGo (List.replicate 15 false ++ [true]) T2_1.pc) = true := by kernel_rfl
theorem h2_1_16 : chkL pcX (accT G 22 64 af6.res Ts3) (M2_1.go (List.replicate 16 false ++ [true])) (M2_1.pcGo (List.replicate 16 false ++ [true]) T2_1.pc) = true := by kernel_rfl
theorem h2_1_17 : chkL pcX (accT G 22 64 af6.res Ts3) (M2_1.go (List.replicate 17 false ++ [true])) (M2_1.pcGo (List.replicate 17 false ++ [true]) T2_1.pc) = true := by kernel_rfl
theorem h2_1_18 : chkL pcX (accT G 22 64 af6.res Ts3) (M2_1.go (List.replicate 18 false ++ [true])) (M2_1.pcGo (List.replicate 18 false ++ [true]) T2_1.pc) = true := by kernel_rfl
theorem h2_1_19 : chkL pcX (accT G 22 64 af6.res Ts3) (M2_1.go (List.replicate 19 false ++ [true])) (M2_1.pcGo (List.replicate 19 false ++ [true]) T2_1.pc) = true := by kernel_rfl
theorem h2_1_20 : chkL pcX (accT G 22 64 af6.res Ts3) (M2_1.go (List.replicate 20 false ++ [true])) (M2_1.pcGo (List.replicate 20 false ++ [true]) T2_1.pc) = true := by kernel_rfl
theorem h2_1_21 : chkL pcX (accT G 22 64 af6.res Ts3) (M2_1.go (List.replicate 21 false ++ [true])) (M2_1.pcGo (List.replicate 21 false ++ [true]) T2_1.pc) = true := by kernel_rfl
theorem h2_1_22 : chkL pcX (accT G 22 64 af6.res Ts3) (M2_1.go (List.replicate 22 false ++ [true])) (M2_1.pcGo (List.replicate 22 false ++ [true]) T2_1.pc) = true := by kernel_rfl
theorem h2_1_23 : chkL pcX (accT G 22 64 af6.res Ts3) (M2_1.go (List.replicate 23 false ++ [true])) (M2_1.pcGo (List.replicate 23 false ++ [true]) T2_1.pc) = true := by kernel_rfl
theorem h2_1_24 : chkL pcX (accT G 22 64 af6.res Ts3) (M2_1.go (List.replicate 24 false ++ [true])) (M2_1.pcGo (List.replicate 24 false ++ [true]) T2_1.pc) = true := by kernel_rfl
theorem h2_1_25 : chkL pcX (accT G 22 64 af6.res Ts3) (M2_1.go (List.replicate 25 false ++ [true])) (M2_1.pcGo (List.replicate 25 false ++ [true]) T2_1.pc) = true := by kernel_rfl
theorem h2_1_26 : chkL pcX (accT G 22 64 af6.res Ts3) (M2_1.go (List.replicate 26 false ++ [true])) (M2_1.pcGo (List.replicate 26 false ++ [true]) T2_1.pc) = true := by kernel_rfl
theorem h2_1_27 : chkL pcX (accT G 22 64 af6.res Ts3) (M2_1.go (List.replicate 27 false ++ [true])) (M2_1.pcGo (List.replicate 27 false ++ [true]) T2_1.pc) = true := by kernel_rfl
theorem h2_1_28 : chkL pcX (accT G 22 64 af6.res Ts3) (M2_1.go (List.replicate 28 false ++ [true])) (M2_1.pcGo (List.replicate 28 false ++ [true]) T2_1.pc) = true := by kernel_rfl
theorem h2_1_29 : chkL pcX (accT G 22 64 af6.res Ts3) (M2_1.go (List.replicate 29 false ++ [true])) (M2_1.pcGo (List.replicate 29 false ++ [true]) T2_1.pc) = true := by kernel_rfl
end Go.Proofs.YtagaclifeoiepabDoor.isaNames

/- Checks for IsaNames. No condition. -/
import Derived.Test.YtagaclifeoiepabDoorQIsaNames
namespace Go.Proofs.YtagaclifeoiepabDoor.isaNames
open Go.Sx Go.ChangeShapes Go.WideShapes Go.ChangeAt Go.RowKit
set_option linter.unusedVariables false
set_option linter.unusedSimpArgs false
set_option maxRecDepth 1000000
theorem h2_0_4 : chkL pcX (accT G 22 64 af6.res Ts3) (M2_0.go (List.replicate 4 false ++ [true])) (M2_0.pcGo (List.replicate 4 false ++ [true]) T2_0.pc) = true := by kernel_rfl
theorem h2_0_5 : chkL pcX (accT G 22 64 af6.res Ts3) (M2_0.go (List.replicate 5 false ++ [true])) (M2_0.pcGo (List.replicate 5 false ++ [true]) T2_0.pc) = true := by kernel_rfl
theorem h2_0_6 : chkL pcX (accT G 22 64 af6.res Ts3) (M2_0.go (List.replicate 6 false ++ [true])) (M2_0.pcGo (List.replicate 6 false ++ [true]) T2_0.pc) = true := by kernel_rfl
theorem h2_0_7 : chkL pcX (accT G 22 64 af6.res Ts3) (M2_0.go (List.replicate 7 false ++ [true])) (M2_0.pcGo (List.replicate 7 false ++ [true]) T2_0.pc) = true := by kernel_rfl
theorem h2_0_8 : chkL pcX (accT G 22 64 af6.res Ts3) (M2_0.go (List.replicate 8 false ++ [true])) (M2_0.pcGo (List.replicate 8 false ++ [true]) T2_0.pc) = true := by kernel_rfl
theorem h2_0_9 : chkL pcX (accT G 22 64 af6.res Ts3) (M2_0.go (List.replicate 9 false ++ [true])) (M2_0.pcGo (List.replicate 9 false ++ [true]) T2_0.pc) = true := by kernel_rfl
theorem h2_0_10 : chkL pcX (accT G 22 64 af6.res Ts3) (M2_0.go (List.replicate 10 false ++ [true])) (M2_0.pcGo (List.replicate 10 false ++ [true]) T2_0.pc) = true := by kernel_rfl
theorem h2_0_11 : chkL pcX (accT G 22 64 af6.res Ts3) (M2_0.go (List.replicate 11 false ++ [true])) (M2_0.pcGo (List.replicate 11 false ++ [true]) T2_0.pc) = true := by kernel_rfl
theorem h2_0_12 : chkL pcX (accT G 22 64 af6.res Ts3) (M2_0.go (List.replicate 12 false ++ [true])) (M2_0.pcGo (List.replicate 12 false ++ [true]) T2_0.pc) = true := by kernel_rfl
theorem h2_0_13 : chkL pcX (accT G 22 64 af6.res Ts3) (M2_0.go (List.replicate 13 false ++ [true])) (M2_0.pcGo (List.replicate 13 false ++ [true]) T2_0.pc) = true := by kernel_rfl
theorem h2_0_14 : chkL pcX (accT G 22 64 af6.res Ts3) (M2_0.go (List.replicate 14 false ++ [true])) (M2_0.pcGo (List.replicate 14 false ++ [true]) T2_0.pc) = true := by kernel_rfl
theorem h2_0_15 : chkL pcX (accT G 22 64 af6.res Ts3) (M2_0.go (List.replicate 15 false ++ [true])) (M2_0.pcGo (List.replicate 15 false ++ [true]) T2_0.pc) = true := by kernel_rfl
theorem h2_0_16 : chkL pcX (accT G 22 64 af6.res Ts3) (M2_0.go (List.replicate 16 false ++ [true])) (M2_0.pcGo (List.replicate 16 false ++ [true]) T2_0.pc) = true := by kernel_rfl
theorem h2_0_17 : chkL pcX (accT G 22 64 af6.res Ts3) (M2_0.go (List.replicate 17 false ++ [true])) (M2_0.pcGo (List.replicate 17 false ++ [true]) T2_0.pc) = true := by kernel_rfl
theorem h2_0_18 : chkL pcX (accT G 22 64 af6.res Ts3) (M2_0.go (List.replicate 18 false ++ [true])) (M2_0.pcGo (List.replicate 18 false ++ [true]) T2_0.pc) = true := by kernel_rfl
theorem h2_0_19 : chkL pcX (accT G 22 64 af6.res Ts3) (M2_0.go (List.replicate 19 false ++ [true])) (M2_0.pcGo (List.replicate 19 false ++ [true]) T2_0.pc) = true := by kernel_rfl
theorem h2_0_20 : chkL pcX (accT G 22 64 af6.res Ts3) (M2_0.go (List.replicate 20 false ++ [true])) (M2_0.pcGo (List.replicate 20 false ++ [true]) T2_0.pc) = true := by kernel_rfl
theorem h2_0_21 : chkL pcX (accT G 22 64 af6.res Ts3) (M2_0.go (List.replicate 21 false ++ [true])) (M2_0.pcGo (List.replicate 21 false ++ [true]) T2_0.pc) = true := by kernel_rfl
end Go.Proofs.YtagaclifeoiepabDoor.isaNames

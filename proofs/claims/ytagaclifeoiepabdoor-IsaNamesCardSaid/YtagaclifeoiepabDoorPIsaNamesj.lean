/- Checks for IsaNames. No condition. -/
import Derived.Test.YtagaclifeoiepabDoorQIsaNames
namespace Go.Proofs.YtagaclifeoiepabDoor.isaNames
open Go.Sx Go.ChangeShapes Go.WideShapes Go.ChangeAt Go.RowKit
set_option linter.unusedVariables false
set_option linter.unusedSimpArgs false
set_option maxRecDepth 1000000
theorem h2_1_30 : chkL pcX (accT G 22 64 af6.res Ts3) (M2_1.go (List.replicate 30 false ++ [true])) (M2_1.pcGo (List.replicate 30 false ++ [true]) T2_1.pc) = true := by kernel_rfl
theorem h2_1_31 : chkL pcX (accT G 22 64 af6.res Ts3) (M2_1.go (List.replicate 31 false ++ [true])) (M2_1.pcGo (List.replicate 31 false ++ [true]) T2_1.pc) = true := by kernel_rfl
theorem h2_1_32 : chkL pcX (accT G 22 64 af6.res Ts3) (M2_1.go (List.replicate 32 false ++ [true])) (M2_1.pcGo (List.replicate 32 false ++ [true]) T2_1.pc) = true := by kernel_rfl
theorem h2_1_33 : chkL pcX (accT G 22 64 af6.res Ts3) (M2_1.go (List.replicate 33 false ++ [true])) (M2_1.pcGo (List.replicate 33 false ++ [true]) T2_1.pc) = true := by kernel_rfl
theorem h2_1_34 : chkL pcX (accT G 22 64 af6.res Ts3) (M2_1.go (List.replicate 34 false ++ [true])) (M2_1.pcGo (List.replicate 34 false ++ [true]) T2_1.pc) = true := by kernel_rfl
theorem h2_1_35 : chkL pcX (accT G 22 64 af6.res Ts3) (M2_1.go (List.replicate 35 false ++ [true])) (M2_1.pcGo (List.replicate 35 false ++ [true]) T2_1.pc) = true := by kernel_rfl
theorem h2_1_36 : chkL pcX (accT G 22 64 af6.res Ts3) (M2_1.go (List.replicate 36 false ++ [true])) (M2_1.pcGo (List.replicate 36 false ++ [true]) T2_1.pc) = true := by kernel_rfl
theorem h2_1_37 : chkL pcX (accT G 22 64 af6.res Ts3) (M2_1.go (List.replicate 37 false ++ [true])) (M2_1.pcGo (List.replicate 37 false ++ [true]) T2_1.pc) = true := by kernel_rfl
theorem h2_1_38 : chkL pcX (accT G 22 64 af6.res Ts3) (M2_1.go (List.replicate 38 false ++ [true])) (M2_1.pcGo (List.replicate 38 false ++ [true]) T2_1.pc) = true := by kernel_rfl
theorem h2_1_39 : chkL pcX (accT G 22 64 af6.res Ts3) (M2_1.go (List.replicate 39 false ++ [true])) (M2_1.pcGo (List.replicate 39 false ++ [true]) T2_1.pc) = true := by kernel_rfl
theorem h2_1_40 : chkL pcX (accT G 22 64 af6.res Ts3) (M2_1.go (List.replicate 40 false ++ [true])) (M2_1.pcGo (List.replicate 40 false ++ [true]) T2_1.pc) = true := by kernel_rfl
theorem h2_1_41 : chkL pcX (accT G 22 64 af6.res Ts3) (M2_1.go (List.replicate 41 false ++ [true])) (M2_1.pcGo (List.replicate 41 false ++ [true]) T2_1.pc) = true := by kernel_rfl
theorem h2_1_42 : chkL pcX (accT G 22 64 af6.res Ts3) (M2_1.go (List.replicate 42 false ++ [true])) (M2_1.pcGo (List.replicate 42 false ++ [true]) T2_1.pc) = true := by kernel_rfl
theorem h2_1_43 : chkL pcX (accT G 22 64 af6.res Ts3) (M2_1.go (List.replicate 43 false ++ [true])) (M2_1.pcGo (List.replicate 43 false ++ [true]) T2_1.pc) = true := by kernel_rfl
theorem h2_1_44 : chkL pcX (accT G 22 64 af6.res Ts3) (M2_1.go (List.replicate 44 false ++ [true])) (M2_1.pcGo (List.replicate 44 false ++ [true]) T2_1.pc) = true := by kernel_rfl
theorem h2_1_45 : chkL pcX (accT G 22 64 af6.res Ts3) (M2_1.go (List.replicate 45 false ++ [true])) (M2_1.pcGo (List.replicate 45 false ++ [true]) T2_1.pc) = true := by kernel_rfl
theorem h2_1_46 : chkL pcX (accT G 22 64 af6.res Ts3) (M2_1.go (List.replicate 46 false ++ [true])) (M2_1.pcGo (List.replicate 46 false ++ [true]) T2_1.pc) = true := by kernel_rfl
theorem h2_1_47 : chkL pcX (accT G 22 64 af6.res Ts3) (M2_1.go (List.replicate 47 false ++ [true])) (M2_1.pcGo (List.replicate 47 false ++ [true]) T2_1.pc) = true := by kernel_rfl
end Go.Proofs.YtagaclifeoiepabDoor.isaNames

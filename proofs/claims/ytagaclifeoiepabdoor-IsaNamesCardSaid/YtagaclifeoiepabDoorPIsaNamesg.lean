/- Checks for IsaNames. No condition. -/
import Derived.Test.YtagaclifeoiepabDoorQIsaNames
namespace Go.Proofs.YtagaclifeoiepabDoor.isaNames
open Go.Sx Go.ChangeShapes Go.WideShapes Go.ChangeAt Go.RowKit
set_option linter.unusedVariables false
set_option linter.unusedSimpArgs false
set_option maxRecDepth 1000000
theorem h2_0_40 : chkL pcX (accT G 22 64 af6.res Ts3) (M2_0.go (List.replicate 40 false ++ [true])) (M2_0.pcGo (List.replicate 40 false ++ [true]) T2_0.pc) = true := by kernel_rfl
theorem h2_0_41 : chkL pcX (accT G 22 64 af6.res Ts3) (M2_0.go (List.replicate 41 false ++ [true])) (M2_0.pcGo (List.replicate 41 false ++ [true]) T2_0.pc) = true := by kernel_rfl
theorem h2_0_42 : chkL pcX (accT G 22 64 af6.res Ts3) (M2_0.go (List.replicate 42 false ++ [true])) (M2_0.pcGo (List.replicate 42 false ++ [true]) T2_0.pc) = true := by kernel_rfl
theorem h2_0_43 : chkL pcX (accT G 22 64 af6.res Ts3) (M2_0.go (List.replicate 43 false ++ [true])) (M2_0.pcGo (List.replicate 43 false ++ [true]) T2_0.pc) = true := by kernel_rfl
theorem h2_0_44 : chkL pcX (accT G 22 64 af6.res Ts3) (M2_0.go (List.replicate 44 false ++ [true])) (M2_0.pcGo (List.replicate 44 false ++ [true]) T2_0.pc) = true := by kernel_rfl
theorem h2_0_45 : chkL pcX (accT G 22 64 af6.res Ts3) (M2_0.go (List.replicate 45 false ++ [true])) (M2_0.pcGo (List.replicate 45 false ++ [true]) T2_0.pc) = true := by kernel_rfl
theorem h2_0_46 : chkL pcX (accT G 22 64 af6.res Ts3) (M2_0.go (List.replicate 46 false ++ [true])) (M2_0.pcGo (List.replicate 46 false ++ [true]) T2_0.pc) = true := by kernel_rfl
theorem h2_0_47 : chkL pcX (accT G 22 64 af6.res Ts3) (M2_0.go (List.replicate 47 false ++ [true])) (M2_0.pcGo (List.replicate 47 false ++ [true]) T2_0.pc) = true := by kernel_rfl
theorem h2_0_48 : chkL pcX (accT G 22 64 af6.res Ts3) (M2_0.go (List.replicate 48 false ++ [true])) (M2_0.pcGo (List.replicate 48 false ++ [true]) T2_0.pc) = true := by kernel_rfl
theorem h2_0_49 : chkL pcX (accT G 22 64 af6.res Ts3) (M2_0.go (List.replicate 49 false ++ [true])) (M2_0.pcGo (List.replicate 49 false ++ [true]) T2_0.pc) = true := by kernel_rfl
theorem h2_0_50 : chkL pcX (accT G 22 64 af6.res Ts3) (M2_0.go (List.replicate 50 false ++ [true])) (M2_0.pcGo (List.replicate 50 false ++ [true]) T2_0.pc) = true := by kernel_rfl
theorem h2_0_51 : chkL pcX (accT G 22 64 af6.res Ts3) (M2_0.go (List.replicate 51 false ++ [true])) (M2_0.pcGo (List.replicate 51 false ++ [true]) T2_0.pc) = true := by kernel_rfl
theorem h2_0_52 : chkL pcX (accT G 22 64 af6.res Ts3) (M2_0.go (List.replicate 52 false ++ [true])) (M2_0.pcGo (List.replicate 52 false ++ [true]) T2_0.pc) = true := by kernel_rfl
theorem h2_0_53 : chkL pcX (accT G 22 64 af6.res Ts3) (M2_0.go (List.replicate 53 false ++ [true])) (M2_0.pcGo (List.replicate 53 false ++ [true]) T2_0.pc) = true := by kernel_rfl
theorem h2_0_54 : chkL pcX (accT G 22 64 af6.res Ts3) (M2_0.go (List.replicate 54 false ++ [true])) (M2_0.pcGo (List.replicate 54 false ++ [true]) T2_0.pc) = true := by kernel_rfl
theorem h2_0_55 : chkL pcX (accT G 22 64 af6.res Ts3) (M2_0.go (List.replicate 55 false ++ [true])) (M2_0.pcGo (List.replicate 55 false ++ [true]) T2_0.pc) = true := by kernel_rfl
theorem h2_0_56 : chkL pcX (accT G 22 64 af6.res Ts3) (M2_0.go (List.replicate 56 false ++ [true])) (M2_0.pcGo (List.replicate 56 false ++ [true]) T2_0.pc) = true := by kernel_rfl
theorem h2_0_57 : chkL pcX (accT G 22 64 af6.res Ts3) (M2_0.go (List.replicate 57 false ++ [true])) (M2_0.pcGo (List.replicate 57 false ++ [true]) T2_0.pc) = true := by kernel_rfl
end Go.Proofs.YtagaclifeoiepabDoor.isaNames

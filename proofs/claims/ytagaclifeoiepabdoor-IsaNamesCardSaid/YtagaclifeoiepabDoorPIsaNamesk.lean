/- Checks for IsaNames. No condition. -/
import Derived.Test.YtagaclifeoiepabDoorQIsaNames
namespace Go.Proofs.YtagaclifeoiepabDoor.isaNames
open Go.Sx Go.ChangeShapes Go.WideShapes Go.ChangeAt Go.RowKit
set_option linter.unusedVariables false
set_option linter.unusedSimpArgs false
set_option maxRecDepth 1000000
theorem h2_1_48 : chkL pcX (accT G 22 64 af6.res Ts3) (M2_1.go (List.replicate 48 false ++ [true])) (M2_1.pcGo (List.replicate 48 false ++ [true]) T2_1.pc) = true := by kernel_rfl
theorem h2_1_49 : chkL pcX (accT G 22 64 af6.res Ts3) (M2_1.go (List.replicate 49 false ++ [true])) (M2_1.pcGo (List.replicate 49 false ++ [true]) T2_1.pc) = true := by kernel_rfl
theorem h2_1_50 : chkL pcX (accT G 22 64 af6.res Ts3) (M2_1.go (List.replicate 50 false ++ [true])) (M2_1.pcGo (List.replicate 50 false ++ [true]) T2_1.pc) = true := by kernel_rfl
theorem h2_1_51 : chkL pcX (accT G 22 64 af6.res Ts3) (M2_1.go (List.replicate 51 false ++ [true])) (M2_1.pcGo (List.replicate 51 false ++ [true]) T2_1.pc) = true := by kernel_rfl
theorem h2_1_52 : chkL pcX (accT G 22 64 af6.res Ts3) (M2_1.go (List.replicate 52 false ++ [true])) (M2_1.pcGo (List.replicate 52 false ++ [true]) T2_1.pc) = true := by kernel_rfl
theorem h2_1_53 : chkL pcX (accT G 22 64 af6.res Ts3) (M2_1.go (List.replicate 53 false ++ [true])) (M2_1.pcGo (List.replicate 53 false ++ [true]) T2_1.pc) = true := by kernel_rfl
theorem h2_1_54 : chkL pcX (accT G 22 64 af6.res Ts3) (M2_1.go (List.replicate 54 false ++ [true])) (M2_1.pcGo (List.replicate 54 false ++ [true]) T2_1.pc) = true := by kernel_rfl
theorem h2_1_55 : chkL pcX (accT G 22 64 af6.res Ts3) (M2_1.go (List.replicate 55 false ++ [true])) (M2_1.pcGo (List.replicate 55 false ++ [true]) T2_1.pc) = true := by kernel_rfl
theorem h2_1_56 : chkL pcX (accT G 22 64 af6.res Ts3) (M2_1.go (List.replicate 56 false ++ [true])) (M2_1.pcGo (List.replicate 56 false ++ [true]) T2_1.pc) = true := by kernel_rfl
theorem h2_1_57 : chkL pcX (accT G 22 64 af6.res Ts3) (M2_1.go (List.replicate 57 false ++ [true])) (M2_1.pcGo (List.replicate 57 false ++ [true]) T2_1.pc) = true := by kernel_rfl
theorem h2_1_58 : chkL pcX (accT G 22 64 af6.res Ts3) (M2_1.go (List.replicate 58 false ++ [true])) (M2_1.pcGo (List.replicate 58 false ++ [true]) T2_1.pc) = true := by kernel_rfl
theorem h2_1_59 : chkL pcX (accT G 22 64 af6.res Ts3) (M2_1.go (List.replicate 59 false ++ [true])) (M2_1.pcGo (List.replicate 59 false ++ [true]) T2_1.pc) = true := by kernel_rfl
theorem h2_1_60 : chkL pcX (accT G 22 64 af6.res Ts3) (M2_1.go (List.replicate 60 false ++ [true])) (M2_1.pcGo (List.replicate 60 false ++ [true]) T2_1.pc) = true := by kernel_rfl
theorem h2_1_61 : chkL pcX (accT G 22 64 af6.res Ts3) (M2_1.go (List.replicate 61 false ++ [true])) (M2_1.pcGo (List.replicate 61 false ++ [true]) T2_1.pc) = true := by kernel_rfl
theorem ckF_0 : chkL pcX (accF G af6.res) MF_0 T3_0.pc = true := by kernel_rfl
theorem ckF_1 : chkL pcX (accF G af6.res) MF_1 T3_1.pc = true := by kernel_rfl
theorem ckF_2 : chkL pcX (accF G af6.res) MF_2 T3_2.pc = true := by kernel_rfl
end Go.Proofs.YtagaclifeoiepabDoor.isaNames

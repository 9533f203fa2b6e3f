/- Checks for IsaNames. No condition. -/
import Derived.Test.YtagaclifeoiepabDoorQIsaNames
namespace Go.Proofs.YtagaclifeoiepabDoor.isaNames
open Go.Sx Go.ChangeShapes Go.WideShapes Go.ChangeAt Go.RowKit
set_option linter.unusedVariables false
set_option linter.unusedSimpArgs false
set_option maxRecDepth 1000000
theorem h2_0_58 : chkL pcX (accT G 22 64 af6.res Ts3) (M2_0.go (List.replicate 58 false ++ [true])) (M2_0.pcGo (List.replicate 58 false ++ [true]) T2_0.pc) = true := by kernel_rfl
theorem h2_0_59 : chkL pcX (accT G 22 64 af6.res Ts3) (M2_0.go (List.replicate 59 false ++ [true])) (M2_0.pcGo (List.replicate 59 false ++ [true]) T2_0.pc) = true := by kernel_rfl
theorem h2_0_60 : chkL pcX (accT G 22 64 af6.res Ts3) (M2_0.go (List.replicate 60 false ++ [true])) (M2_0.pcGo (List.replicate 60 false ++ [true]) T2_0.pc) = true := by kernel_rfl
theorem h2_0_61 : chkL pcX (accT G 22 64 af6.res Ts3) (M2_0.go (List.replicate 61 false ++ [true])) (M2_0.pcGo (List.replicate 61 false ++ [true]) T2_0.pc) = true := by kernel_rfl
theorem sc2_1 : chkSk pcX (accT G 22 64 af6.res Ts3) sk2_1 M2_1 T2_1.pc = true := by kernel_rfl
theorem h2_1_0 : chkL pcX (accT G 22 64 af6.res Ts3) (M2_1.go ([true])) (M2_1.pcGo ([true]) T2_1.pc) = true := by kernel_rfl
theorem h2_1_1 : chkL pcX (accT G 22 64 af6.res Ts3) (M2_1.go ([false, true])) (M2_1.pcGo ([false, true]) T2_1.pc) = true := by kernel_rfl
theorem h2_1_2 : chkL pcX (accT G 22 64 af6.res Ts3) (M2_1.go ([false, false, true])) (M2_1.pcGo ([false, false, true]) T2_1.pc) = true := by kernel_rfl
theorem h2_1_3 : chkL pcX (accT G 22 64 af6.res Ts3) (M2_1.go ([false, false, false, true])) (M2_1.pcGo ([false, false, false, true]) T2_1.pc) = true := by kernel_rfl
theorem h2_1_4 : chkL pcX (accT G 22 64 af6.res Ts3) (M2_1.go (List.replicate 4 false ++ [true])) (M2_1.pcGo (List.replicate 4 false ++ [true]) T2_1.pc) = true := by kernel_rfl
theorem h2_1_5 : chkL pcX (accT G 22 64 af6.res Ts3) (M2_1.go (List.replicate 5 false ++ [true])) (M2_1.pcGo (List.replicate 5 false ++ [true]) T2_1.pc) = true := by kernel_rfl
theorem h2_1_6 : chkL pcX (accT G 22 64 af6.res Ts3) (M2_1.go (List.replicate 6 false ++ [true])) (M2_1.pcGo (List.replicate 6 false ++ [true]) T2_1.pc) = true := by kernel_rfl
theorem h2_1_7 : chkL pcX (accT G 22 64 af6.res Ts3) (M2_1.go (List.replicate 7 false ++ [true])) (M2_1.pcGo (List.replicate 7 false ++ [true]) T2_1.pc) = true := by kernel_rfl
theorem h2_1_8 : chkL pcX (accT G 22 64 af6.res Ts3) (M2_1.go (List.replicate 8 false ++ [true])) (M2_1.pcGo (List.replicate 8 false ++ [true]) T2_1.pc) = true := by kernel_rfl
theorem h2_1_9 : chkL pcX (accT G 22 64 af6.res Ts3) (M2_1.go (List.replicate 9 false ++ [true])) (M2_1.pcGo (List.replicate 9 false ++ [true]) T2_1.pc) = true := by kernel_rfl
theorem h2_1_10 : chkL pcX (accT G 22 64 af6.res Ts3) (M2_1.go (List.replicate 10 false ++ [true])) (M2_1.pcGo (List.replicate 10 false ++ [true]) T2_1.pc) = true := by kernel_rfl
theorem h2_1_11 : chkL pcX (accT G 22 64 af6.res Ts3) (M2_1.go (List.replicate 11 false ++ [true])) (M2_1.pcGo (List.replicate 11 false ++ [true]) T2_1.pc) = true := by kernel_rfl
end Go.Proofs.YtagaclifeoiepabDoor.isaNames

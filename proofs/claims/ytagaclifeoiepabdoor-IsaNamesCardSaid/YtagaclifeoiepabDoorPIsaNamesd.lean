/- Checks for IsaNames. No condition. -/
import Derived.Test.YtagaclifeoiepabDoorQIsaNames
namespace Go.Proofs.YtagaclifeoiepabDoor.isaNames
open Go.Sx Go.ChangeShapes Go.WideShapes Go.ChangeAt Go.RowKit
set_option linter.unusedVariables false
set_option linter.unusedSimpArgs false
set_option maxRecDepth 1000000
theorem h1_0_52 : chkL pcX (accT G 22 64 af6.res Ts2) (M1_0.go (List.replicate 52 false ++ [true])) (M1_0.pcGo (List.replicate 52 false ++ [true]) T1_0.pc) = true := by kernel_rfl
theorem h1_0_53 : chkL pcX (accT G 22 64 af6.res Ts2) (M1_0.go (List.replicate 53 false ++ [true])) (M1_0.pcGo (List.replicate 53 false ++ [true]) T1_0.pc) = true := by kernel_rfl
theorem h1_0_54 : chkL pcX (accT G 22 64 af6.res Ts2) (M1_0.go (List.replicate 54 false ++ [true])) (M1_0.pcGo (List.replicate 54 false ++ [true]) T1_0.pc) = true := by kernel_rfl
theorem h1_0_55 : chkL pcX (accT G 22 64 af6.res Ts2) (M1_0.go (List.replicate 55 false ++ [true])) (M1_0.pcGo (List.replicate 55 false ++ [true]) T1_0.pc) = true := by kernel_rfl
theorem h1_0_56 : chkL pcX (accT G 22 64 af6.res Ts2) (M1_0.go (List.replicate 56 false ++ [true])) (M1_0.pcGo (List.replicate 56 false ++ [true]) T1_0.pc) = true := by kernel_rfl
theorem h1_0_57 : chkL pcX (accT G 22 64 af6.res Ts2) (M1_0.go (List.replicate 57 false ++ [true])) (M1_0.pcGo (List.replicate 57 false ++ [true]) T1_0.pc) = true := by kernel_rfl
theorem h1_0_58 : chkL pcX (accT G 22 64 af6.res Ts2) (M1_0.go (List.replicate 58 false ++ [true])) (M1_0.pcGo (List.replicate 58 false ++ [true]) T1_0.pc) = true := by kernel_rfl
theorem h1_0_59 : chkL pcX (accT G 22 64 af6.res Ts2) (M1_0.go (List.replicate 59 false ++ [true])) (M1_0.pcGo (List.replicate 59 false ++ [true]) T1_0.pc) = true := by kernel_rfl
theorem h1_0_60 : chkL pcX (accT G 22 64 af6.res Ts2) (M1_0.go (List.replicate 60 false ++ [true])) (M1_0.pcGo (List.replicate 60 false ++ [true]) T1_0.pc) = true := by kernel_rfl
theorem h1_0_61 : chkL pcX (accT G 22 64 af6.res Ts2) (M1_0.go (List.replicate 61 false ++ [true])) (M1_0.pcGo (List.replicate 61 false ++ [true]) T1_0.pc) = true := by kernel_rfl
theorem h1_0_62 : chkL pcX (accT G 22 64 af6.res Ts2) (M1_0.go (List.replicate 62 false ++ [true])) (M1_0.pcGo (List.replicate 62 false ++ [true]) T1_0.pc) = true := by kernel_rfl
theorem h1_0_63 : chkL pcX (accT G 22 64 af6.res Ts2) (M1_0.go (List.replicate 63 false ++ [true])) (M1_0.pcGo (List.replicate 63 false ++ [true]) T1_0.pc) = true := by kernel_rfl
theorem h1_0_64 : chkL pcX (accT G 22 64 af6.res Ts2) (M1_0.go (List.replicate 64 false)) (M1_0.pcGo (List.replicate 64 false) T1_0.pc) = true := by kernel_rfl
theorem sc2_0 : chkSk pcX (accT G 22 64 af6.res Ts3) sk2_0 M2_0 T2_0.pc = true := by kernel_rfl
theorem h2_0_0 : chkL pcX (accT G 22 64 af6.res Ts3) (M2_0.go ([true])) (M2_0.pcGo ([true]) T2_0.pc) = true := by kernel_rfl
theorem h2_0_1 : chkL pcX (accT G 22 64 af6.res Ts3) (M2_0.go ([false, true])) (M2_0.pcGo ([false, true]) T2_0.pc) = true := by kernel_rfl
theorem h2_0_2 : chkL pcX (accT G 22 64 af6.res Ts3) (M2_0.go ([false, false, true])) (M2_0.pcGo ([false, false, true]) T2_0.pc) = true := by kernel_rfl
theorem h2_0_3 : chkL pcX (accT G 22 64 af6.res Ts3) (M2_0.go ([false, false, false, true])) (M2_0.pcGo ([false, false, false, true]) T2_0.pc) = true := by kernel_rfl
end Go.Proofs.YtagaclifeoiepabDoor.isaNames

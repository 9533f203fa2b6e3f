/- Checks for IsaNames. No condition. -/
import Derived.Test.YtagaclifeoiepabDoorQIsaNames
namespace Go.Proofs.YtagaclifeoiepabDoor.isaNames
open Go.Sx Go.ChangeShapes Go.WideShapes Go.ChangeAt Go.RowKit
set_option linter.unusedVariables false
set_option linter.unusedSimpArgs false
set_option maxRecDepth 1000000
theorem h1_0_34 : chkL pcX (accT G 22 64 af6.res Ts2) (M1_0.go (List.replicate 34 false ++ [true])) (M1_0.pcGo (List.replicate 34 false ++ [true]) T1_0.pc) = true := by kernel_rfl
theorem h1_0_35 : chkL pcX (accT G 22 64 af6.res Ts2) (M1_0.go (List.replicate 35 false ++ [true])) (M1_0.pcGo (List.replicate 35 false ++ [true]) T1_0.pc) = true := by kernel_rfl
theorem h1_0_36 : chkL pcX (accT G 22 64 af6.res Ts2) (M1_0.go (List.replicate 36 false ++ [true])) (M1_0.pcGo (List.replicate 36 false ++ [true]) T1_0.pc) = true := by kernel_rfl
theorem h1_0_37 : chkL pcX (accT G 22 64 af6.res Ts2) (M1_0.go (List.replicate 37 false ++ [true])) (M1_0.pcGo (List.replicate 37 false ++ [true]) T1_0.pc) = true := by kernel_rfl
theorem h1_0_38 : chkL pcX (accT G 22 64 af6.res Ts2) (M1_0.go (List.replicate 38 false ++ [true])) (M1_0.pcGo (List.replicate 38 false ++ [true]) T1_0.pc) = true := by kernel_rfl
theorem h1_0_39 : chkL pcX (accT G 22 64 af6.res Ts2) (M1_0.go (List.replicate 39 false ++ [true])) (M1_0.pcGo (List.replicate 39 false ++ [true]) T1_0.pc) = true := by kernel_rfl
theorem h1_0_40 : chkL pcX (accT G 22 64 af6.res Ts2) (M1_0.go (List.replicate 40 false ++ [true])) (M1_0.pcGo (List.replicate 40 false ++ [true]) T1_0.pc) = true := by kernel_rfl
theorem h1_0_41 : chkL pcX (accT G 22 64 af6.res Ts2) (M1_0.go (List.replicate 41 false ++ [true])) (M1_0.pcGo (List.replicate 41 false ++ [true]) T1_0.pc) = true := by kernel_rfl
theorem h1_0_42 : chkL pcX (accT G 22 64 af6.res Ts2) (M1_0.go (List.replicate 42 false ++ [true])) (M1_0.pcGo (List.replicate 42 false ++ [true]) T1_0.pc) = true := by kernel_rfl
theorem h1_0_43 : chkL pcX (accT G 22 64 af6.res Ts2) (M1_0.go (List.replicate 43 false ++ [true])) (M1_0.pcGo (List.replicate 43 false ++ [true]) T1_0.pc) = true := by kernel_rfl
theorem h1_0_44 : chkL pcX (accT G 22 64 af6.res Ts2) (M1_0.go (List.replicate 44 false ++ [true])) (M1_0.pcGo (List.replicate 44 false ++ [true]) T1_0.pc) = true := by kernel_rfl
theorem h1_0_45 : chkL pcX (accT G 22 64 af6.res Ts2) (M1_0.go (List.replicate 45 false ++ [true])) (M1_0.pcGo (List.replicate 45 false ++ [true]) T1_0.pc) = true := by kernel_rfl
theorem h1_0_46 : chkL pcX (accT G 22 64 af6.res Ts2) (M1_0.go (List.replicate 46 false ++ [true])) (M1_0.pcGo (List.replicate 46 false ++ [true]) T1_0.pc) = true := by kernel_rfl
theorem h1_0_47 : chkL pcX (accT G 22 64 af6.res Ts2) (M1_0.go (List.replicate 47 false ++ [true])) (M1_0.pcGo (List.replicate 47 false ++ [true]) T1_0.pc) = true := by kernel_rfl
theorem h1_0_48 : chkL pcX (accT G 22 64 af6.res Ts2) (M1_0.go (List.replicate 48 false ++ [true])) (M1_0.pcGo (List.replicate 48 false ++ [true]) T1_0.pc) = true := by kernel_rfl
theorem h1_0_49 : chkL pcX (accT G 22 64 af6.res Ts2) (M1_0.go (List.replicate 49 false ++ [true])) (M1_0.pcGo (List.replicate 49 false ++ [true]) T1_0.pc) = true := by kernel_rfl
theorem h1_0_50 : chkL pcX (accT G 22 64 af6.res Ts2) (M1_0.go (List.replicate 50 false ++ [true])) (M1_0.pcGo (List.replicate 50 false ++ [true]) T1_0.pc) = true := by kernel_rfl
theorem h1_0_51 : chkL pcX (accT G 22 64 af6.res Ts2) (M1_0.go (List.replicate 51 false ++ [true])) (M1_0.pcGo (List.replicate 51 false ++ [true]) T1_0.pc) = true := by kernel_rfl
end Go.Proofs.YtagaclifeoiepabDoor.isaNames

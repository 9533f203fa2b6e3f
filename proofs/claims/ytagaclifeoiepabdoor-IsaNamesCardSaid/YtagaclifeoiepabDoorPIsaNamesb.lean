/- Checks for IsaNames. No condition. -/
import Derived.Test.YtagaclifeoiepabDoorQIsaNames
namespace Go.Proofs.YtagaclifeoiepabDoor.isaNames
open Go.Sx Go.ChangeShapes Go.WideShapes Go.ChangeAt Go.RowKit
set_option linter.unusedVariables false
set_option linter.unusedSimpArgs false
set_option maxRecDepth 1000000
theorem h1_0_16 : chkL pcX (accT G 22 64 af6.res Ts2) (M1_0.go (List.replicate 16 false ++ [true])) (M1_0.pcGo (List.replicate 16 false ++ [true]) T1_0.pc) = true := by kernel_rfl
theorem h1_0_17 : chkL pcX (accT G 22 64 af6.res Ts2) (M1_0.go (List.replicate 17 false ++ [true])) (M1_0.pcGo (List.replicate 17 false ++ [true]) T1_0.pc) = true := by kernel_rfl
theorem h1_0_18 : chkL pcX (accT G 22 64 af6.res Ts2) (M1_0.go (List.replicate 18 false ++ [true])) (M1_0.pcGo (List.replicate 18 false ++ [true]) T1_0.pc) = true := by kernel_rfl
theorem h1_0_19 : chkL pcX (accT G 22 64 af6.res Ts2) (M1_0.go (List.replicate 19 false ++ [true])) (M1_0.pcGo (List.replicate 19 false ++ [true]) T1_0.pc) = true := by kernel_rfl
theorem h1_0_20 : chkL pcX (accT G 22 64 af6.res Ts2) (M1_0.go (List.replicate 20 false ++ [true])) (M1_0.pcGo (List.replicate 20 false ++ [true]) T1_0.pc) = true := by kernel_rfl
theorem h1_0_21 : chkL pcX (accT G 22 64 af6.res Ts2) (M1_0.go (List.replicate 21 false ++ [true])) (M1_0.pcGo (List.replicate 21 false ++ [true]) T1_0.pc) = true := by kernel_rfl
theorem h1_0_22 : chkL pcX (accT G 22 64 af6.res Ts2) (M1_0.go (List.replicate 22 false ++ [true])) (M1_0.pcGo (List.replicate 22 false ++ [true]) T1_0.pc) = true := by kernel_rfl
theorem h1_0_23 : chkL pcX (accT G 22 64 af6.res Ts2) (M1_0.go (List.replicate 23 false ++ [true])) (M1_0.pcGo (List.replicate 23 false ++ [true]) T1_0.pc) = true := by kernel_rfl
theorem h1_0_24 : chkL pcX (accT G 22 64 af6.res Ts2) (M1_0.go (List.replicate 24 false ++ [true])) (M1_0.pcGo (List.replicate 24 false ++ [true]) T1_0.pc) = true := by kernel_rfl
theorem h1_0_25 : chkL pcX (accT G 22 64 af6.res Ts2) (M1_0.go (List.replicate 25 false ++ [true])) (M1_0.pcGo (List.replicate 25 false ++ [true]) T1_0.pc) = true := by kernel_rfl
theorem h1_0_26 : chkL pcX (accT G 22 64 af6.res Ts2) (M1_0.go (List.replicate 26 false ++ [true])) (M1_0.pcGo (List.replicate 26 false ++ [true]) T1_0.pc) = true := by kernel_rfl
theorem h1_0_27 : chkL pcX (accT G 22 64 af6.res Ts2) (M1_0.go (List.replicate 27 false ++ [true])) (M1_0.pcGo (List.replicate 27 false ++ [true]) T1_0.pc) = true := by kernel_rfl
theorem h1_0_28 : chkL pcX (accT G 22 64 af6.res Ts2) (M1_0.go (List.replicate 28 false ++ [true])) (M1_0.pcGo (List.replicate 28 false ++ [true]) T1_0.pc) = true := by kernel_rfl
theorem h1_0_29 : chkL pcX (accT G 22 64 af6.res Ts2) (M1_0.go (List.replicate 29 false ++ [true])) (M1_0.pcGo (List.replicate 29 false ++ [true]) T1_0.pc) = true := by kernel_rfl
theorem h1_0_30 : chkL pcX (accT G 22 64 af6.res Ts2) (M1_0.go (List.replicate 30 false ++ [true])) (M1_0.pcGo (List.replicate 30 false ++ [true]) T1_0.pc) = true := by kernel_rfl
theorem h1_0_31 : chkL pcX (accT G 22 64 af6.res Ts2) (M1_0.go (List.replicate 31 false ++ [true])) (M1_0.pcGo (List.replicate 31 false ++ [true]) T1_0.pc) = true := by kernel_rfl
theorem h1_0_32 : chkL pcX (accT G 22 64 af6.res Ts2) (M1_0.go (List.replicate 32 false ++ [true])) (M1_0.pcGo (List.replicate 32 false ++ [true]) T1_0.pc) = true := by kernel_rfl
theorem h1_0_33 : chkL pcX (accT G 22 64 af6.res Ts2) (M1_0.go (List.replicate 33 false ++ [true])) (M1_0.pcGo (List.replicate 33 false ++ [true]) T1_0.pc) = true := by kernel_rfl
end Go.Proofs.YtagaclifeoiepabDoor.isaNames

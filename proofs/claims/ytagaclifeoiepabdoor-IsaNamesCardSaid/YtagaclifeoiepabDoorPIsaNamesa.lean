/- Checks for IsaNames. No condition. -/
import Derived.Test.YtagaclifeoiepabDoorQIsaNames
namespace Go.Proofs.YtagaclifeoiepabDoor.isaNames
open Go.Sx Go.ChangeShapes Go.WideShapes Go.ChangeAt Go.RowKit
set_option linter.unusedVariables false
set_option linter.unusedSimpArgs false
set_option maxRecDepth 1000000
theorem ck0_0 : chkL pcX (accT G 22 64 af6.res Ts1) M0_0 T0_0.pc = true := by kernel_rfl
theorem sc1_0 : chkSk pcX (accT G 22 64 af6.res Ts2) sk1_0 M1_0 T1_0.pc = true := by kernel_rfl
theorem h1_0_0 : chkL pcX (accT G 22 64 af6.res Ts2) (M1_0.go ([true])) (M1_0.pcGo ([true]) T1_0.pc) = true := by kernel_rfl
theorem h1_0_1 : chkL pcX (accT G 22 64 af6.res Ts2) (M1_0.go ([false, true])) (M1_0.pcGo ([false, true]) T1_0.pc) = true := by kernel_rfl
theorem h1_0_2 : chkL pcX (accT G 22 64 af6.res Ts2) (M1_0.go ([false, false, true])) (M1_0.pcGo ([false, false, true]) T1_0.pc) = true := by kernel_rfl
theorem h1_0_3 : chkL pcX (accT G 22 64 af6.res Ts2) (M1_0.go ([false, false, false, true])) (M1_0.pcGo ([false, false, false, true]) T1_0.pc) = true := by kernel_rfl
theorem h1_0_4 : chkL pcX (accT G 22 64 af6.res Ts2) (M1_0.go (List.replicate 4 false ++ [true])) (M1_0.pcGo (List.replicate 4 false ++ [true]) T1_0.pc) = true := by kernel_rfl
theorem h1_0_5 : chkL pcX (accT G 22 64 af6.res Ts2) (M1_0.go (List.replicate 5 false ++ [true])) (M1_0.pcGo (List.replicate 5 false ++ [true]) T1_0.pc) = true := by kernel_rfl
theorem h1_0_6 : chkL pcX (accT G 22 64 af6.res Ts2) (M1_0.go (List.replicate 6 false ++ [true])) (M1_0.pcGo (List.replicate 6 false ++ [true]) T1_0.pc) = true := by kernel_rfl
theorem h1_0_7 : chkL pcX (accT G 22 64 af6.res Ts2) (M1_0.go (List.replicate 7 false ++ [true])) (M1_0.pcGo (List.replicate 7 false ++ [true]) T1_0.pc) = true := by kernel_rfl
theorem h1_0_8 : chkL pcX (accT G 22 64 af6.res Ts2) (M1_0.go (List.replicate 8 false ++ [true])) (M1_0.pcGo (List.replicate 8 false ++ [true]) T1_0.pc) = true := by kernel_rfl
theorem h1_0_9 : chkL pcX (accT G 22 64 af6.res Ts2) (M1_0.go (List.replicate 9 false ++ [true])) (M1_0.pcGo (List.replicate 9 false ++ [true]) T1_0.pc) = true := by kernel_rfl
theorem h1_0_10 : chkL pcX (accT G 22 64 af6.res Ts2) (M1_0.go (List.replicate 10 false ++ [true])) (M1_0.pcGo (List.replicate 10 false ++ [true]) T1_0.pc) = true := by kernel_rfl
theorem h1_0_11 : chkL pcX (accT G 22 64 af6.res Ts2) (M1_0.go (List.replicate 11 false ++ [true])) (M1_0.pcGo (List.replicate 11 false ++ [true]) T1_0.pc) = true := by kernel_rfl
theorem h1_0_12 : chkL pcX (accT G 22 64 af6.res Ts2) (M1_0.go (List.replicate 12 false ++ [true])) (M1_0.pcGo (List.replicate 12 false ++ [true]) T1_0.pc) = true := by kernel_rfl
theorem h1_0_13 : chkL pcX (accT G 22 64 af6.res Ts2) (M1_0.go (List.replicate 13 false ++ [true])) (M1_0.pcGo (List.replicate 13 false ++ [true]) T1_0.pc) = true := by kernel_rfl
theorem h1_0_14 : chkL pcX (accT G 22 64 af6.res Ts2) (M1_0.go (List.replicate 14 false ++ [true])) (M1_0.pcGo (List.replicate 14 false ++ [true]) T1_0.pc) = true := by kernel_rfl
theorem h1_0_15 : chkL pcX (accT G 22 64 af6.res Ts2) (M1_0.go (List.replicate 15 false ++ [true])) (M1_0.pcGo (List.replicate 15 false ++ [true]) T1_0.pc) = true := by kernel_rfl
end Go.Proofs.YtagaclifeoiepabDoor.isaNames

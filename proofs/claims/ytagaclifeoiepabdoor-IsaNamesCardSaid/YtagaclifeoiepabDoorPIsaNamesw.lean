/- Checks for IsaNames. No condition. -/
import Derived.Test.YtagaclifeoiepabDoorPIsaNamesv
namespace Go.Proofs.YtagaclifeoiepabDoor.isaNames
open Go.Sx Go.ChangeShapes Go.WideShapes Go.ChangeAt Go.RowKit
set_option linter.unusedVariables false
set_option linter.unusedSimpArgs false
set_option maxRecDepth 1000000
theorem hY0_3 : chkL pcX (accT G 22 64 af6.res Ts3) (MY0.go (List.replicate 3 false ++ [true])) (MY0.pcGo (List.replicate 3 false ++ [true]) pcY0) = true := by kernel_rfl
theorem hY0_4 : chkL pcX (accT G 22 64 af6.res Ts3) (MY0.go (List.replicate 4 false ++ [true])) (MY0.pcGo (List.replicate 4 false ++ [true]) pcY0) = true := by kernel_rfl
theorem hY0_5 : chkL pcX (accT G 22 64 af6.res Ts3) (MY0.go (List.replicate 5 false ++ [true])) (MY0.pcGo (List.replicate 5 false ++ [true]) pcY0) = true := by kernel_rfl
theorem hY0_6 : chkL pcX (accT G 22 64 af6.res Ts3) (MY0.go (List.replicate 6 false ++ [true])) (MY0.pcGo (List.replicate 6 false ++ [true]) pcY0) = true := by kernel_rfl
theorem hY0_7 : chkL pcX (accT G 22 64 af6.res Ts3) (MY0.go (List.replicate 7 false)) (MY0.pcGo (List.replicate 7 false) pcY0) = true := by kernel_rfl
theorem slY0 : skY0.holes [] = [[true], List.replicate 1 false ++ [true], List.replicate 2 false ++ [true], List.replicate 3 false ++ [true], List.replicate 4 false ++ [true], List.replicate 5 false ++ [true], List.replicate 6 false ++ [true], List.replicate 7 false] := by rfl
theorem h2_0_62 : chkL pcX (accT G 22 64 af6.res Ts3) (M2_0.go (List.replicate 62 false)) (M2_0.pcGo (List.replicate 62 false) T2_0.pc) = true := chkSk_sound scY0 fun p hp => allP_mem (q := fun p => chkL pcX (accT G 22 64 af6.res Ts3) (MY0.go p) (MY0.pcGo p pcY0) = true) (l := [[true], List.replicate 1 false ++ [true], List.replicate 2 false ++ [true], List.replicate 3 false ++ [true], List.replicate 4 false ++ [true], List.replicate 5 false ++ [true], List.replicate 6 false ++ [true], List.replicate 7 false]) ⟨hY0_0, hY0_1, hY0_2, hY0_3, hY0_4, hY0_5, hY0_6, hY0_7, trivial⟩ p (slY0 ▸ hp)
end Go.Proofs.YtagaclifeoiepabDoor.isaNames

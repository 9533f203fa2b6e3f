/- Checks for IsaNames. No condition. -/
import Derived.Test.YtagaclifeoiepabDoorPIsaNamest
namespace Go.Proofs.YtagaclifeoiepabDoor.isaNames
open Go.Sx Go.ChangeShapes Go.WideShapes Go.ChangeAt Go.RowKit
set_option linter.unusedVariables false
set_option linter.unusedSimpArgs false
set_option maxRecDepth 1000000
theorem hX_3 : chkL pcX (accT G 22 64 af6.res Ts3) (MX.go (List.replicate 3 false ++ [true])) (MX.pcGo (List.replicate 3 false ++ [true]) pcX2) = true := by kernel_rfl
theorem hX_4 : chkL pcX (accT G 22 64 af6.res Ts3) (MX.go (List.replicate 4 false ++ [true])) (MX.pcGo (List.replicate 4 false ++ [true]) pcX2) = true := by kernel_rfl
theorem hX_5 : chkL pcX (accT G 22 64 af6.res Ts3) (MX.go (List.replicate 5 false ++ [true])) (MX.pcGo (List.replicate 5 false ++ [true]) pcX2) = true := by kernel_rfl
theorem hX_6 : chkL pcX (accT G 22 64 af6.res Ts3) (MX.go (List.replicate 6 false ++ [true])) (MX.pcGo (List.replicate 6 false ++ [true]) pcX2) = true := by kernel_rfl
theorem hX_7 : chkL pcX (accT G 22 64 af6.res Ts3) (MX.go (List.replicate 7 false)) (MX.pcGo (List.replicate 7 false) pcX2) = true := by kernel_rfl
theorem slX : skX.holes [] = [[true], List.replicate 1 false ++ [true], List.replicate 2 false ++ [true], List.replicate 3 false ++ [true], List.replicate 4 false ++ [true], List.replicate 5 false ++ [true], List.replicate 6 false ++ [true], List.replicate 7 false] := by rfl
theorem h2_1_62 : chkL pcX (accT G 22 64 af6.res Ts3) (M2_1.go (List.replicate 62 false)) (M2_1.pcGo (List.replicate 62 false) T2_1.pc) = true := chkSk_sound scX fun p hp => allP_mem (q := fun p => chkL pcX (accT G 22 64 af6.res Ts3) (MX.go p) (MX.pcGo p pcX2) = true) (l := [[true], List.replicate 1 false ++ [true], List.replicate 2 false ++ [true], List.replicate 3 false ++ [true], List.replicate 4 false ++ [true], List.replicate 5 false ++ [true], List.replicate 6 false ++ [true], List.replicate 7 false]) ⟨hX_0, hX_1, hX_2, hX_3, hX_4, hX_5, hX_6, hX_7, trivial⟩ p (slX ▸ hp)
end Go.Proofs.YtagaclifeoiepabDoor.isaNames

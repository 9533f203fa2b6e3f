/- Checks for IsaNames. No condition. -/
import Derived.Test.YtagaclifeoiepabDoorQIsaNames
namespace Go.Proofs.YtagaclifeoiepabDoor.isaNames
open Go.Sx Go.ChangeShapes Go.WideShapes Go.ChangeAt Go.RowKit
set_option linter.unusedVariables false
set_option linter.unusedSimpArgs false
set_option maxRecDepth 1000000
noncomputable def MY0 : TT (Ex × Fr × SP) := M2_0.go (List.replicate 62 false)
noncomputable def pcY0 : PC := M2_0.pcGo (List.replicate 62 false) T2_0.pc
def skY0 : Sk := (.node .hole (.node .hole (.node .hole (.node .hole (.node .hole (.node .hole (.node .hole .hole)))))))
theorem scY0 : chkSk pcX (accT G 22 64 af6.res Ts3) skY0 MY0 pcY0 = true := by kernel_rfl
theorem hY0_0 : chkL pcX (accT G 22 64 af6.res Ts3) (MY0.go ([true])) (MY0.pcGo ([true]) pcY0) = true := by kernel_rfl
theorem hY0_1 : chkL pcX (accT G 22 64 af6.res Ts3) (MY0.go (List.replicate 1 false ++ [true])) (MY0.pcGo (List.replicate 1 false ++ [true]) pcY0) = true := by kernel_rfl
theorem hY0_2 : chkL pcX (accT G 22 64 af6.res Ts3) (MY0.go (List.replicate 2 false ++ [true])) (MY0.pcGo (List.replicate 2 false ++ [true]) pcY0) = true := by kernel_rfl
end Go.Proofs.YtagaclifeoiepabDoor.isaNames

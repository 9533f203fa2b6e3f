/- Checks for IsaNames. No condition. -/
import Derived.Test.YtagaclifeoiepabDoorQIsaNames
namespace Go.Proofs.YtagaclifeoiepabDoor.isaNames
open Go.Sx Go.ChangeShapes Go.WideShapes Go.ChangeAt Go.RowKit
set_option linter.unusedVariables false
set_option linter.unusedSimpArgs false
set_option maxRecDepth 1000000
noncomputable def MX : TT (Ex × Fr × SP) := M2_1.go (List.replicate 62 false)
noncomputable def pcX2 : PC := M2_1.pcGo (List.replicate 62 false) T2_1.pc
def skX : Sk := (.node .hole (.node .hole (.node .hole (.node .hole (.node .hole (.node .hole (.node .hole .hole)))))))
theorem scX : chkSk pcX (accT G 22 64 af6.res Ts3) skX MX pcX2 = true := by kernel_rfl
theorem hX_0 : chkL pcX (accT G 22 64 af6.res Ts3) (MX.go ([true])) (MX.pcGo ([true]) pcX2) = true := by kernel_rfl
theorem hX_1 : chkL pcX (accT G 22 64 af6.res Ts3) (MX.go (List.replicate 1 false ++ [true])) (MX.pcGo (List.replicate 1 false ++ [true]) pcX2) = true := by kernel_rfl
theorem hX_2 : chkL pcX (accT G 22 64 af6.res Ts3) (MX.go (List.replicate 2 false ++ [true])) (MX.pcGo (List.replicate 2 false ++ [true]) pcX2) = true := by kernel_rfl
end Go.Proofs.YtagaclifeoiepabDoor.isaNames

/- Checks for IsaNames. No condition. -/
import Derived.Test.YtagaclifeoiepabDoorQIsaNames
namespace Go.Proofs.YtagaclifeoiepabDoor.isaNames
open Go.Sx Go.ChangeShapes Go.WideShapes Go.ChangeAt Go.RowKit
set_option linter.unusedVariables false
set_option linter.unusedSimpArgs false
set_option maxRecDepth 1000000
theorem ckF_129 : chkL pcX (accF G af6.res) MF_129 T3_129.pc = true := by kernel_rfl
theorem ckF_130 : chkL pcX (accF G af6.res) MF_130 T3_130.pc = true := by kernel_rfl
theorem ckF_131 : chkL pcX (accF G af6.res) MF_131 T3_131.pc = true := by kernel_rfl
theorem ckF_132 : chkL pcX (accF G af6.res) MF_132 T3_132.pc = true := by kernel_rfl
theorem ckF_133 : chkL pcX (accF G af6.res) MF_133 T3_133.pc = true := by kernel_rfl
theorem ckF_134 : chkL pcX (accF G af6.res) MF_134 T3_134.pc = true := by kernel_rfl
theorem ckF_135 : chkL pcX (accF G af6.res) MF_135 T3_135.pc = true := by kernel_rfl
theorem ckF_136 : chkL pcX (accF G af6.res) MF_136 T3_136.pc = true := by kernel_rfl
theorem ckF_137 : chkL pcX (accF G af6.res) MF_137 T3_137.pc = true := by kernel_rfl
theorem ckF_138 : chkL pcX (accF G af6.res) MF_138 T3_138.pc = true := by kernel_rfl
theorem ckF_139 : chkL pcX (accF G af6.res) MF_139 T3_139.pc = true := by kernel_rfl
end Go.Proofs.YtagaclifeoiepabDoor.isaNames

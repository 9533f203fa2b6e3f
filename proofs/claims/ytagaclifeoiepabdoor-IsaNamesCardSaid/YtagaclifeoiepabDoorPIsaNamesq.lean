/- Checks for IsaNames. No condition. -/
import Derived.Test.YtagaclifeoiepabDoorQIsaNames
namespace Go.Proofs.YtagaclifeoiepabDoor.isaNames
open Go.Sx Go.ChangeShapes Go.WideShapes Go.ChangeAt Go.RowKit
set_option linter.unusedVariables false
set_option linter.unusedSimpArgs false
set_option maxRecDepth 1000000
theorem ckF_93 : chkL pcX (accF G af6.res) MF_93 T3_93.pc = true := by kernel_rfl
theorem ckF_94 : chkL pcX (accF G af6.res) MF_94 T3_94.pc = true := by kernel_rfl
theorem ckF_95 : chkL pcX (accF G af6.res) MF_95 T3_95.pc = true := by kernel_rfl
theorem ckF_96 : chkL pcX (accF G af6.res) MF_96 T3_96.pc = true := by kernel_rfl
theorem ckF_97 : chkL pcX (accF G af6.res) MF_97 T3_97.pc = true := by kernel_rfl
theorem ckF_98 : chkL pcX (accF G af6.res) MF_98 T3_98.pc = true := by kernel_rfl
theorem ckF_99 : chkL pcX (accF G af6.res) MF_99 T3_99.pc = true := by kernel_rfl
theorem ckF_100 : chkL pcX (accF G af6.res) MF_100 T3_100.pc = true := by kernel_rfl
theorem ckF_101 : chkL pcX (accF G af6.res) MF_101 T3_101.pc = true := by kernel_rfl
theorem ckF_102 : chkL pcX (accF G af6.res) MF_102 T3_102.pc = true := by kernel_rfl
theorem ckF_103 : chkL pcX (accF G af6.res) MF_103 T3_103.pc = true := by kernel_rfl
theorem ckF_104 : chkL pcX (accF G af6.res) MF_104 T3_104.pc = true := by kernel_rfl
theorem ckF_105 : chkL pcX (accF G af6.res) MF_105 T3_105.pc = true := by kernel_rfl
theorem ckF_106 : chkL pcX (accF G af6.res) MF_106 T3_106.pc = true := by kernel_rfl
theorem ckF_107 : chkL pcX (accF G af6.res) MF_107 T3_107.pc = true := by kernel_rfl
theorem ckF_108 : chkL pcX (accF G af6.res) MF_108 T3_108.pc = true := by kernel_rfl
theorem ckF_109 : chkL pcX (accF G af6.res) MF_109 T3_109.pc = true := by kernel_rfl
theorem ckF_110 : chkL pcX (accF G af6.res) MF_110 T3_110.pc = true := by kernel_rfl
end Go.Proofs.YtagaclifeoiepabDoor.isaNames

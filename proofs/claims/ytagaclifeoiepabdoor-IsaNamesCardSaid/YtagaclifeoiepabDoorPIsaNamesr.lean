/- Checks for IsaNames. No condition. -/
import Derived.Test.YtagaclifeoiepabDoorQIsaNames
namespace Go.Proofs.YtagaclifeoiepabDoor.isaNames
open Go.Sx Go.ChangeShapes Go.WideShapes Go.ChangeAt Go.RowKit
set_option linter.unusedVariables false
set_option linter.unusedSimpArgs false
set_option maxRecDepth 1000000
theorem ckF_111 : chkL pcX (accF G af6.res) MF_111 T3_111.pc = true := by kernel_rfl
theorem ckF_112 : chkL pcX (accF G af6.res) MF_112 T3_112.pc = true := by kernel_rfl
theorem ckF_113 : chkL pcX (accF G af6.res) MF_113 T3_113.pc = true := by kernel_rfl
theorem ckF_114 : chkL pcX (accF G af6.res) MF_114 T3_114.pc = true := by kernel_rfl
theorem ckF_115 : chkL pcX (accF G af6.res) MF_115 T3_115.pc = true := by kernel_rfl
theorem ckF_116 : chkL pcX (accF G af6.res) MF_116 T3_116.pc = true := by kernel_rfl
theorem ckF_117 : chkL pcX (accF G af6.res) MF_117 T3_117.pc = true := by kernel_rfl
theorem ckF_118 : chkL pcX (accF G af6.res) MF_118 T3_118.pc = true := by kernel_rfl
theorem ckF_119 : chkL pcX (accF G af6.res) MF_119 T3_119.pc = true := by kernel_rfl
theorem ckF_120 : chkL pcX (accF G af6.res) MF_120 T3_120.pc = true := by kernel_rfl
theorem ckF_121 : chkL pcX (accF G af6.res) MF_121 T3_121.pc = true := by kernel_rfl
theorem ckF_122 : chkL pcX (accF G af6.res) MF_122 T3_122.pc = true := by kernel_rfl
theorem ckF_123 : chkL pcX (accF G af6.res) MF_123 T3_123.pc = true := by kernel_rfl
theorem ckF_124 : chkL pcX (accF G af6.res) MF_124 T3_124.pc = true := by kernel_rfl
theorem ckF_125 : chkL pcX (accF G af6.res) MF_125 T3_125.pc = true := by kernel_rfl
theorem ckF_126 : chkL pcX (accF G af6.res) MF_126 T3_126.pc = true := by kernel_rfl
theorem ckF_127 : chkL pcX (accF G af6.res) MF_127 T3_127.pc = true := by kernel_rfl
theorem ckF_128 : chkL pcX (accF G af6.res) MF_128 T3_128.pc = true := by kernel_rfl
end Go.Proofs.YtagaclifeoiepabDoor.isaNames

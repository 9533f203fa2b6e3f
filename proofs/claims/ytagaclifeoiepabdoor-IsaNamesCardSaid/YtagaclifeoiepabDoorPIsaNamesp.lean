/- Checks for IsaNames. No condition. -/
import Derived.Test.YtagaclifeoiepabDoorQIsaNames
namespace Go.Proofs.YtagaclifeoiepabDoor.isaNames
open Go.Sx Go.ChangeShapes Go.WideShapes Go.ChangeAt Go.RowKit
set_option linter.unusedVariables false
set_option linter.unusedSimpArgs false
set_option maxRecDepth 1000000
theorem ckF_75 : chkL pcX (accF G af6.res) MF_75 T3_75.pc = true := by kernel_rfl
theorem ckF_76 : chkL pcX (accF G af6.res) MF_76 T3_76.pc = true := by kernel_rfl
theorem ckF_77 : chkL pcX (accF G af6.res) MF_77 T3_77.pc = true := by kernel_rfl
theorem ckF_78 : chkL pcX (accF G af6.res) MF_78 T3_78.pc = true := by kernel_rfl
theorem ckF_79 : chkL pcX (accF G af6.res) MF_79 T3_79.pc = true := by kernel_rfl
theorem ckF_80 : chkL pcX (accF G af6.res) MF_80 T3_80.pc = true := by kernel_rfl
theorem ckF_81 : chkL pcX (accF G af6.res) MF_81 T3_81.pc = true := by kernel_rfl
theorem ckF_82 : chkL pcX (accF G af6.res) MF_82 T3_82.pc = true := by kernel_rfl
theorem ckF_83 : chkL pcX (accF G af6.res) MF_83 T3_83.pc = true := by kernel_rfl
theorem ckF_84 : chkL pcX (accF G af6.res) MF_84 T3_84.pc = true := by kernel_rfl
theorem ckF_85 : chkL pcX (accF G af6.res) MF_85 T3_85.pc = true := by kernel_rfl
theorem ckF_86 : chkL pcX (accF G af6.res) MF_86 T3_86.pc = true := by kernel_rfl
theorem ckF_87 : chkL pcX (accF G af6.res) MF_87 T3_87.pc = true := by kernel_rfl
theorem ckF_88 : chkL pcX (accF G af6.res) MF_88 T3_88.pc = true := by kernel_rfl
theorem ckF_89 : chkL pcX (accF G af6.res) MF_89 T3_89.pc = true := by kernel_rfl
theorem ckF_90 : chkL pcX (accF G af6.res) MF_90 T3_90.pc = true := by kernel_rfl
theorem ckF_91 : chkL pcX (accF G af6.res) MF_91 T3_91.pc = true := by kernel_rfl
theorem ckF_92 : chkL pcX (accF G af6.res) MF_92 T3_92.pc = true := by kernel_rfl
end Go.Proofs.YtagaclifeoiepabDoor.isaNames

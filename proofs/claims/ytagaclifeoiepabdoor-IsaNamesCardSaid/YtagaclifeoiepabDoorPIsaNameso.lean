/- Checks for IsaNames. No condition. -/
import Derived.Test.YtagaclifeoiepabDoorQIsaNames
namespace Go.Proofs.YtagaclifeoiepabDoor.isaNames
open Go.Sx Go.ChangeShapes Go.WideShapes Go.ChangeAt Go.RowKit
set_option linter.unusedVariables false
set_option linter.unusedSimpArgs false
set_option maxRecDepth 1000000
theorem ckF_57 : chkL pcX (accF G af6.res) MF_57 T3_57.pc = true := by kernel_rfl
theorem ckF_58 : chkL pcX (accF G af6.res) MF_58 T3_58.pc = true := by kernel_rfl
theorem ckF_59 : chkL pcX (accF G af6.res) MF_59 T3_59.pc = true := by kernel_rfl
theorem ckF_60 : chkL pcX (accF G af6.res) MF_60 T3_60.pc = true := by kernel_rfl
theorem ckF_61 : chkL pcX (accF G af6.res) MF_61 T3_61.pc = true := by kernel_rfl
theorem ckF_62 : chkL pcX (accF G af6.res) MF_62 T3_62.pc = true := by kernel_rfl
theorem ckF_63 : chkL pcX (accF G af6.res) MF_63 T3_63.pc = true := by kernel_rfl
theorem ckF_64 : chkL pcX (accF G af6.res) MF_64 T3_64.pc = true := by kernel_rfl
theorem ckF_65 : chkL pcX (accF G af6.res) MF_65 T3_65.pc = true := by kernel_rfl
theorem ckF_66 : chkL pcX (accF G af6.res) MF_66 T3_66.pc = true := by kernel_rfl
theorem ckF_67 : chkL pcX (accF G af6.res) MF_67 T3_67.pc = true := by kernel_rfl
theorem ckF_68 : chkL pcX (accF G af6.res) MF_68 T3_68.pc = true := by kernel_rfl
theorem ckF_69 : chkL pcX (accF G af6.res) MF_69 T3_69.pc = true := by kernel_rfl
theorem ckF_70 : chkL pcX (accF G af6.res) MF_70 T3_70.pc = true := by kernel_rfl
theorem ckF_71 : chkL pcX (accF G af6.res) MF_71 T3_71.pc = true := by kernel_rfl
theorem ckF_72 : chkL pcX (accF G af6.res) MF_72 T3_72.pc = true := by kernel_rfl
theorem ckF_73 : chkL pcX (accF G af6.res) MF_73 T3_73.pc = true := by kernel_rfl
theorem ckF_74 : chkL pcX (accF G af6.res) MF_74 T3_74.pc = true := by kernel_rfl
end Go.Proofs.YtagaclifeoiepabDoor.isaNames

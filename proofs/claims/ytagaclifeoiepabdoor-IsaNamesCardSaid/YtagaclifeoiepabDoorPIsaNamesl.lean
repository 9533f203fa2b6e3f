/- Checks for IsaNames. No condition. -/
import Derived.Test.YtagaclifeoiepabDoorQIsaNames
namespace Go.Proofs.YtagaclifeoiepabDoor.isaNames
open Go.Sx Go.ChangeShapes Go.WideShapes Go.ChangeAt Go.RowKit
set_option linter.unusedVariables false
set_option linter.unusedSimpArgs false
set_option maxRecDepth 1000000
theorem ckF_3 : chkL pcX (accF G af6.res) MF_3 T3_3.pc = true := by kernel_rfl
theorem ckF_4 : chkL pcX (accF G af6.res) MF_4 T3_4.pc = true := by kernel_rfl
theorem ckF_5 : chkL pcX (accF G af6.res) MF_5 T3_5.pc = true := by kernel_rfl
theorem ckF_6 : chkL pcX (accF G af6.res) MF_6 T3_6.pc = true := by kernel_rfl
theorem ckF_7 : chkL pcX (accF G af6.res) MF_7 T3_7.pc = true := by kernel_rfl
theorem ckF_8 : chkL pcX (accF G af6.res) MF_8 T3_8.pc = true := by kernel_rfl
theorem ckF_9 : chkL pcX (accF G af6.res) MF_9 T3_9.pc = true := by kernel_rfl
theorem ckF_10 : chkL pcX (accF G af6.res) MF_10 T3_10.pc = true := by kernel_rfl
theorem ckF_11 : chkL pcX (accF G af6.res) MF_11 T3_11.pc = true := by kernel_rfl
theorem ckF_12 : chkL pcX (accF G af6.res) MF_12 T3_12.pc = true := by kernel_rfl
theorem ckF_13 : chkL pcX (accF G af6.res) MF_13 T3_13.pc = true := by kernel_rfl
theorem ckF_14 : chkL pcX (accF G af6.res) MF_14 T3_14.pc = true := by kernel_rfl
theorem ckF_15 : chkL pcX (accF G af6.res) MF_15 T3_15.pc = true := by kernel_rfl
theorem ckF_16 : chkL pcX (accF G af6.res) MF_16 T3_16.pc = true := by kernel_rfl
theorem ckF_17 : chkL pcX (accF G af6.res) MF_17 T3_17.pc = true := by kernel_rfl
theorem ckF_18 : chkL pcX (accF G af6.res) MF_18 T3_18.pc = true := by kernel_rfl
theorem ckF_19 : chkL pcX (accF G af6.res) MF_19 T3_19.pc = true := by kernel_rfl
theorem ckF_20 : chkL pcX (accF G af6.res) MF_20 T3_20.pc = true := by kernel_rfl
theorem ckF_21 : chkL pcX (accF G af6.res) MF_21 T3_21.pc = true := by kernel_rfl
theorem ckF_22 : chkL pcX (accF G af6.res) MF_22 T3_22.pc = true := by kernel_rfl
theorem ckF_23 : chkL pcX (accF G af6.res) MF_23 T3_23.pc = true := by kernel_rfl
theorem ckF_24 : chkL pcX (accF G af6.res) MF_24 T3_24.pc = true := by kernel_rfl
theorem ckF_25 : chkL pcX (accF G af6.res) MF_25 T3_25.pc = true := by kernel_rfl
theorem ckF_26 : chkL pcX (accF G af6.res) MF_26 T3_26.pc = true := by kernel_rfl
theorem ckF_27 : chkL pcX (accF G af6.res) MF_27 T3_27.pc = true := by kernel_rfl
theorem ckF_28 : chkL pcX (accF G af6.res) MF_28 T3_28.pc = true := by kernel_rfl
theorem ckF_29 : chkL pcX (accF G af6.res) MF_29 T3_29.pc = true := by kernel_rfl
theorem ckF_30 : chkL pcX (accF G af6.res) MF_30 T3_30.pc = true := by kernel_rfl
theorem ckF_31 : chkL pcX (accF G af6.res) MF_31 T3_31.pc = true := by kernel_rfl
theorem ckF_32 : chkL pcX (accF G af6.res) MF_32 T3_32.pc = true := by kernel_rfl
theorem ckF_33 : chkL pcX (accF G af6.res) MF_33 T3_33.pc = true := by kernel_rfl
theorem ckF_34 : chkL pcX (accF G af6.res) MF_34 T3_34.pc = true := by kernel_rfl
theorem ckF_35 : chkL pcX (accF G af6.res) MF_35 T3_35.pc = true := by kernel_rfl
theorem ckF_36 : chkL pcX (accF G af6.res) MF_36 T3_36.pc = true := by kernel_rfl
theorem ckF_37 : chkL pcX (accF G af6.res) MF_37 T3_37.pc = true := by kernel_rfl
theorem ckF_38 : chkL pcX (accF G af6.res) MF_38 T3_38.pc = true := by kernel_rfl
theorem ckF_39 : chkL pcX (accF G af6.res) MF_39 T3_39.pc = true := by kernel_rfl
theorem ckF_40 : chkL pcX (accF G af6.res) MF_40 T3_40.pc = true := by kernel_rfl
theorem ckF_41 : chkL pcX (accF G af6.res) MF_41 T3_41.pc = true := by kernel_rfl
theorem ckF_42 : chkL pcX (accF G af6.res) MF_42 T3_42.pc = true := by kernel_rfl
theorem ckF_43 : chkL pcX (accF G af6.res) MF_43 T3_43.pc = true := by kernel_rfl
theorem ckF_44 : chkL pcX (accF G af6.res) MF_44 T3_44.pc = true := by kernel_rfl
theorem ckF_45 : chkL pcX (accF G af6.res) MF_45 T3_45.pc = true := by kernel_rfl
theorem ckF_46 : chkL pcX (accF G af6.res) MF_46 T3_46.pc = true := by kernel_rfl
theorem ckF_47 : chkL pcX (accF G af6.res) MF_47 T3_47.pc = true := by kernel_rfl
theorem ckF_48 : chkL pcX (accF G af6.res) MF_48 T3_48.pc = true := by kernel_rfl
theorem ckF_49 : chkL pcX (accF G af6.res) MF_49 T3_49.pc = true := by kernel_rfl
theorem ckF_50 : chkL pcX (accF G af6.res) MF_50 T3_50.pc = true := by kernel_rfl
theorem ckF_51 : chkL pcX (accF G af6.res) MF_51 T3_51.pc = true := by kernel_rfl
theorem ckF_52 : chkL pcX (accF G af6.res) MF_52 T3_52.pc = true := by kernel_rfl
theorem ckF_53 : chkL pcX (accF G af6.res) MF_53 T3_53.pc = true := by kernel_rfl
theorem ckF_54 : chkL pcX (accF G af6.res) MF_54 T3_54.pc = true := by kernel_rfl
theorem ckF_55 : chkL pcX (accF G af6.res) MF_55 T3_55.pc = true := by kernel_rfl
theorem ckF_56 : chkL pcX (accF G af6.res) MF_56 T3_56.pc = true := by kernel_rfl
end Go.Proofs.YtagaclifeoiepabDoor.isaNames

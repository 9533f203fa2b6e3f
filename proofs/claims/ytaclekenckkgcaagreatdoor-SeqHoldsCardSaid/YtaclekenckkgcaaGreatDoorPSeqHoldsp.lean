/- Checks for SeqHolds. No condition. -/
import Derived.Test.YtaclekenckkgcaaGreatDoorQSeqHolds
namespace Go.Proofs.YtaclekenckkgcaaGreatDoor.seqHolds
open Go.Sx Go.ChangeShapes Go.WideShapes Go.ChangeAt Go.RowKit
set_option linter.unusedVariables false
set_option linter.unusedSimpArgs false
set_option maxRecDepth 1000000
theorem ckF_40 : chkL pcX (accF G af4.res) MF_40 T2_40.pc = true := by kernel_rfl
theorem ckF_41 : chkL pcX (accF G af4.res) MF_41 T2_41.pc = true := by kernel_rfl
theorem ckF_42 : chkL pcX (accF G af4.res) MF_42 T2_42.pc = true := by kernel_rfl
theorem ckF_43 : chkL pcX (accF G af4.res) MF_43 T2_43.pc = true := by kernel_rfl
theorem ckF_44 : chkL pcX (accF G af4.res) MF_44 T2_44.pc = true := by kernel_rfl
theorem ckF_45 : chkL pcX (accF G af4.res) MF_45 T2_45.pc = true := by kernel_rfl
end Go.Proofs.YtaclekenckkgcaaGreatDoor.seqHolds

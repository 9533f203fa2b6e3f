/- Checks for SeqHolds. No condition. -/
import Derived.Test.YtaclekenckkgcaaGreatDoorQSeqHolds
namespace Go.Proofs.YtaclekenckkgcaaGreatDoor.seqHolds
open Go.Sx Go.ChangeShapes Go.WideShapes Go.ChangeAt Go.RowKit
set_option linter.unusedVariables false
set_option linter.unusedSimpArgs false
set_option maxRecDepth 1000000
theorem ckF_28 : chkL pcX (accF G af4.res) MF_28 T2_28.pc = true := by kernel_rfl
theorem ckF_29 : chkL pcX (accF G af4.res) MF_29 T2_29.pc = true := by kernel_rfl
theorem ckF_30 : chkL pcX (accF G af4.res) MF_30 T2_30.pc = true := by kernel_rfl
theorem ckF_31 : chkL pcX (accF G af4.res) MF_31 T2_31.pc = true := by kernel_rfl
theorem ckF_32 : chkL pcX (accF G af4.res) MF_32 T2_32.pc = true := by kernel_rfl
theorem ckF_33 : chkL pcX (accF G af4.res) MF_33 T2_33.pc = true := by kernel_rfl
end Go.Proofs.YtaclekenckkgcaaGreatDoor.seqHolds

/- Checks for SeqHolds. No condition. -/
import Derived.Test.YtaclekenckkgcaaGreatDoorQSeqHolds
namespace Go.Proofs.YtaclekenckkgcaaGreatDoor.seqHolds
open Go.Sx Go.ChangeShapes Go.WideShapes Go.ChangeAt Go.RowKit
set_option linter.unusedVariables false
set_option linter.unusedSimpArgs false
set_option maxRecDepth 1000000
theorem ckF_34 : chkL pcX (accF G af4.res) MF_34 T2_34.pc = true := by kernel_rfl
theorem ckF_35 : chkL pcX (accF G af4.res) MF_35 T2_35.pc = true := by kernel_rfl
theorem ckF_36 : chkL pcX (accF G af4.res) MF_36 T2_36.pc = true := by kernel_rfl
theorem ckF_37 : chkL pcX (accF G af4.res) MF_37 T2_37.pc = true := by kernel_rfl
theorem ckF_38 : chkL pcX (accF G af4.res) MF_38 T2_38.pc = true := by kernel_rfl
theorem ckF_39 : chkL pcX (accF G af4.res) MF_39 T2_39.pc = true := by kernel_rfl
end Go.Proofs.YtaclekenckkgcaaGreatDoor.seqHolds

/- Checks for SeqHolds. No condition. -/
import Derived.Test.YtaclekenckkgcaaGreatDoorQSeqHolds
namespace Go.Proofs.YtaclekenckkgcaaGreatDoor.seqHolds
open Go.Sx Go.ChangeShapes Go.WideShapes Go.ChangeAt Go.RowKit
set_option linter.unusedVariables false
set_option linter.unusedSimpArgs false
set_option maxRecDepth 1000000
theorem ckF_10 : chkL pcX (accF G af4.res) MF_10 T2_10.pc = true := by kernel_rfl
theorem ckF_11 : chkL pcX (accF G af4.res) MF_11 T2_11.pc = true := by kernel_rfl
theorem ckF_12 : chkL pcX (accF G af4.res) MF_12 T2_12.pc = true := by kernel_rfl
theorem ckF_13 : chkL pcX (accF G af4.res) MF_13 T2_13.pc = true := by kernel_rfl
theorem ckF_14 : chkL pcX (accF G af4.res) MF_14 T2_14.pc = true := by kernel_rfl
theorem ckF_15 : chkL pcX (accF G af4.res) MF_15 T2_15.pc = true := by kernel_rfl
end Go.Proofs.YtaclekenckkgcaaGreatDoor.seqHolds

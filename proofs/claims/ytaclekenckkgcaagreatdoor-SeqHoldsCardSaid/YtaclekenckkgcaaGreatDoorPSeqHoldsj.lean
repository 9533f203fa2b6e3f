/- Checks for SeqHolds. No condition. -/
import Derived.Test.YtaclekenckkgcaaGreatDoorQSeqHolds
namespace Go.Proofs.YtaclekenckkgcaaGreatDoor.seqHolds
open Go.Sx Go.ChangeShapes Go.WideShapes Go.ChangeAt Go.RowKit
set_option linter.unusedVariables false
set_option linter.unusedSimpArgs false
set_option maxRecDepth 1000000
theorem ckF_4 : chkL pcX (accF G af4.res) MF_4 T2_4.pc = true := by kernel_rfl
theorem ckF_5 : chkL pcX (accF G af4.res) MF_5 T2_5.pc = true := by kernel_rfl
theorem ckF_6 : chkL pcX (accF G af4.res) MF_6 T2_6.pc = true := by kernel_rfl
theorem ckF_7 : chkL pcX (accF G af4.res) MF_7 T2_7.pc = true := by kernel_rfl
theorem ckF_8 : chkL pcX (accF G af4.res) MF_8 T2_8.pc = true := by kernel_rfl
theorem ckF_9 : chkL pcX (accF G af4.res) MF_9 T2_9.pc = true := by kernel_rfl
end Go.Proofs.YtaclekenckkgcaaGreatDoor.seqHolds

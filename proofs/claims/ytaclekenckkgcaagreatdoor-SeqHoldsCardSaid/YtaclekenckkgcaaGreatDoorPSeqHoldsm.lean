/- Checks for SeqHolds. No condition. -/
import Derived.Test.YtaclekenckkgcaaGreatDoorQSeqHolds
namespace Go.Proofs.YtaclekenckkgcaaGreatDoor.seqHolds
open Go.Sx Go.ChangeShapes Go.WideShapes Go.ChangeAt Go.RowKit
set_option linter.unusedVariables false
set_option linter.unusedSimpArgs false
set_option maxRecDepth 1000000
theorem ckF_22 : chkL pcX (accF G af4.res) MF_22 T2_22.pc = true := by kernel_rfl
theorem ckF_23 : chkL pcX (accF G af4.res) MF_23 T2_23.pc = true := by kernel_rfl
theorem ckF_24 : chkL pcX (accF G af4.res) MF_24 T2_24.pc = true := by kernel_rfl
theorem ckF_25 : chkL pcX (accF G af4.res) MF_25 T2_25.pc = true := by kernel_rfl
theorem ckF_26 : chkL pcX (accF G af4.res) MF_26 T2_26.pc = true := by kernel_rfl
theorem ckF_27 : chkL pcX (accF G af4.res) MF_27 T2_27.pc = true := by kernel_rfl
end Go.Proofs.YtaclekenckkgcaaGreatDoor.seqHolds

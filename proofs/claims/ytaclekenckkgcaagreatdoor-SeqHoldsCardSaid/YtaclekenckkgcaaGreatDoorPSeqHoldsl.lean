/- Checks for SeqHolds. No condition. -/
import Derived.Test.YtaclekenckkgcaaGreatDoorQSeqHolds
namespace Go.Proofs.YtaclekenckkgcaaGreatDoor.seqHolds
open Go.Sx Go.ChangeShapes Go.WideShapes Go.ChangeAt Go.RowKit
set_option linter.unusedVariables false
set_option linter.unusedSimpArgs false
set_option maxRecDepth 1000000
theorem ckF_16 : chkL pcX (accF G af4.res) MF_16 T2_16.pc = true := by kernel_rfl
theorem ckF_17 : chkL pcX (accF G af4.res) MF_17 T2_17.pc = true := by kernel_rfl
theorem ckF_18 : chkL pcX (accF G af4.res) MF_18 T2_18.pc = true := by kernel_rfl
theorem ckF_19 : chkL pcX (accF G af4.res) MF_19 T2_19.pc = true := by kernel_rfl
theorem ckF_20 : chkL pcX (accF G af4.res) MF_20 T2_20.pc = true := by kernel_rfl
theorem ckF_21 : chkL pcX (accF G af4.res) MF_21 T2_21.pc = true := by kernel_rfl
end Go.Proofs.YtaclekenckkgcaaGreatDoor.seqHolds

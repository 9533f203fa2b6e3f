/- Checks for SeqHolds. No condition. -/
import Derived.Test.YtaclekenckkgcaaGreatDoorQSeqHolds
namespace Go.Proofs.YtaclekenckkgcaaGreatDoor.seqHolds
open Go.Sx Go.ChangeShapes Go.WideShapes Go.ChangeAt Go.RowKit
set_option linter.unusedVariables false
set_option linter.unusedSimpArgs false
set_option maxRecDepth 1000000
theorem ckF_46 : chkL pcX (accF G af4.res) MF_46 T2_46.pc = true := by kernel_rfl
theorem ckF_47 : chkL pcX (accF G af4.res) MF_47 T2_47.pc = true := by kernel_rfl
end Go.Proofs.YtaclekenckkgcaaGreatDoor.seqHolds

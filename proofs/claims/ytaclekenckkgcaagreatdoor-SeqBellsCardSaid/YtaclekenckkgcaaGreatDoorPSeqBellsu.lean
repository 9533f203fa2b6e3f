/- Checks for SeqBells. No condition. -/
import Derived.Test.YtaclekenckkgcaaGreatDoorQSeqBells
namespace Go.Proofs.YtaclekenckkgcaaGreatDoor.seqBells
open Go.Sx Go.ChangeShapes Go.WideShapes Go.ChangeAt Go.RowKit
set_option linter.unusedVariables false
set_option linter.unusedSimpArgs false
set_option maxRecDepth 1000000
theorem ck7_14 : chkL pcX (accT G 6 64 af6.res Ts8) M7_14 T7_14.pc = true := by kernel_rfl
theorem ck7_15 : chkL pcX (accT G 6 64 af6.res Ts8) M7_15 T7_15.pc = true := by kernel_rfl
theorem ckF_0 : chkL pcX (accF G af6.res) MF_0 T8_0.pc = true := by kernel_rfl
theorem ckF_1 : chkL pcX (accF G af6.res) MF_1 T8_1.pc = true := by kernel_rfl
end Go.Proofs.YtaclekenckkgcaaGreatDoor.seqBells

/- Checks for SeqBells. No condition. -/
import Derived.Test.YtaclekenckkgcaaGreatDoorQSeqBells
namespace Go.Proofs.YtaclekenckkgcaaGreatDoor.seqBells
open Go.Sx Go.ChangeShapes Go.WideShapes Go.ChangeAt Go.RowKit
set_option linter.unusedVariables false
set_option linter.unusedSimpArgs false
set_option maxRecDepth 1000000
theorem ck7_6 : chkL pcX (accT G 6 64 af6.res Ts8) M7_6 T7_6.pc = true := by kernel_rfl
theorem ck7_7 : chkL pcX (accT G 6 64 af6.res Ts8) M7_7 T7_7.pc = true := by kernel_rfl
theorem ck7_8 : chkL pcX (accT G 6 64 af6.res Ts8) M7_8 T7_8.pc = true := by kernel_rfl
theorem ck7_9 : chkL pcX (accT G 6 64 af6.res Ts8) M7_9 T7_9.pc = true := by kernel_rfl
end Go.Proofs.YtaclekenckkgcaaGreatDoor.seqBells

/- Checks for SeqBells. No condition. -/
import Derived.Test.YtaclekenckkgcaaGreatDoorQSeqBells
namespace Go.Proofs.YtaclekenckkgcaaGreatDoor.seqBells
open Go.Sx Go.ChangeShapes Go.WideShapes Go.ChangeAt Go.RowKit
set_option linter.unusedVariables false
set_option linter.unusedSimpArgs false
set_option maxRecDepth 1000000
theorem ck7_10 : chkL pcX (accT G 6 64 af6.res Ts8) M7_10 T7_10.pc = true := by kernel_rfl
theorem ck7_11 : chkL pcX (accT G 6 64 af6.res Ts8) M7_11 T7_11.pc = true := by kernel_rfl
theorem ck7_12 : chkL pcX (accT G 6 64 af6.res Ts8) M7_12 T7_12.pc = true := by kernel_rfl
theorem ck7_13 : chkL pcX (accT G 6 64 af6.res Ts8) M7_13 T7_13.pc = true := by kernel_rfl
end Go.Proofs.YtaclekenckkgcaaGreatDoor.seqBells

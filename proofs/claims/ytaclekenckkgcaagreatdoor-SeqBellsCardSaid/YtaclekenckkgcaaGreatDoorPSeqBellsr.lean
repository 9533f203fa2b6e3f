/- Checks for SeqBells. No condition. -/
import Derived.Test.YtaclekenckkgcaaGreatDoorQSeqBells
namespace Go.Proofs.YtaclekenckkgcaaGreatDoor.seqBells
open Go.Sx Go.ChangeShapes Go.WideShapes Go.ChangeAt Go.RowKit
set_option linter.unusedVariables false
set_option linter.unusedSimpArgs false
set_option maxRecDepth 1000000
theorem ck7_2 : chkL pcX (accT G 6 64 af6.res Ts8) M7_2 T7_2.pc = true := by kernel_rfl
theorem ck7_3 : chkL pcX (accT G 6 64 af6.res Ts8) M7_3 T7_3.pc = true := by kernel_rfl
theorem ck7_4 : chkL pcX (accT G 6 64 af6.res Ts8) M7_4 T7_4.pc = true := by kernel_rfl
theorem ck7_5 : chkL pcX (accT G 6 64 af6.res Ts8) M7_5 T7_5.pc = true := by kernel_rfl
end Go.Proofs.YtaclekenckkgcaaGreatDoor.seqBells

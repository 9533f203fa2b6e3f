/- Checks for SeqBells. No condition. -/
import Derived.Test.YtaclekenckkgcaaGreatDoorQSeqBells
namespace Go.Proofs.YtaclekenckkgcaaGreatDoor.seqBells
open Go.Sx Go.ChangeShapes Go.WideShapes Go.ChangeAt Go.RowKit
set_option linter.unusedVariables false
set_option linter.unusedSimpArgs false
set_option maxRecDepth 1000000
theorem ck5_6 : chkL pcX (accT G 6 64 af6.res Ts6) M5_6 T5_6.pc = true := by kernel_rfl
theorem ck5_7 : chkL pcX (accT G 6 64 af6.res Ts6) M5_7 T5_7.pc = true := by kernel_rfl
theorem ck5_8 : chkL pcX (accT G 6 64 af6.res Ts6) M5_8 T5_8.pc = true := by kernel_rfl
theorem ck5_9 : chkL pcX (accT G 6 64 af6.res Ts6) M5_9 T5_9.pc = true := by kernel_rfl
end Go.Proofs.YtaclekenckkgcaaGreatDoor.seqBells

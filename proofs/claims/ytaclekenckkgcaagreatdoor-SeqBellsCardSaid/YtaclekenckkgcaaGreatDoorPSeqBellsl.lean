/- Checks for SeqBells. No condition. -/
import Derived.Test.YtaclekenckkgcaaGreatDoorQSeqBells
namespace Go.Proofs.YtaclekenckkgcaaGreatDoor.seqBells
open Go.Sx Go.ChangeShapes Go.WideShapes Go.ChangeAt Go.RowKit
set_option linter.unusedVariables false
set_option linter.unusedSimpArgs false
set_option maxRecDepth 1000000
theorem ck5_10 : chkL pcX (accT G 6 64 af6.res Ts6) M5_10 T5_10.pc = true := by kernel_rfl
theorem ck5_11 : chkL pcX (accT G 6 64 af6.res Ts6) M5_11 T5_11.pc = true := by kernel_rfl
theorem ck5_12 : chkL pcX (accT G 6 64 af6.res Ts6) M5_12 T5_12.pc = true := by kernel_rfl
theorem ck5_13 : chkL pcX (accT G 6 64 af6.res Ts6) M5_13 T5_13.pc = true := by kernel_rfl
end Go.Proofs.YtaclekenckkgcaaGreatDoor.seqBells

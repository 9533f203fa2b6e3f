/- Checks for SeqBells. No condition. -/
import Derived.Test.YtaclekenckkgcaaGreatDoorQSeqBells
namespace Go.Proofs.YtaclekenckkgcaaGreatDoor.seqBells
open Go.Sx Go.ChangeShapes Go.WideShapes Go.ChangeAt Go.RowKit
set_option linter.unusedVariables false
set_option linter.unusedSimpArgs false
set_option maxRecDepth 1000000
theorem ck5_2 : chkL pcX (accT G 6 64 af6.res Ts6) M5_2 T5_2.pc = true := by kernel_rfl
theorem ck5_3 : chkL pcX (accT G 6 64 af6.res Ts6) M5_3 T5_3.pc = true := by kernel_rfl
theorem ck5_4 : chkL pcX (accT G 6 64 af6.res Ts6) M5_4 T5_4.pc = true := by kernel_rfl
theorem ck5_5 : chkL pcX (accT G 6 64 af6.res Ts6) M5_5 T5_5.pc = true := by kernel_rfl
end Go.Proofs.YtaclekenckkgcaaGreatDoor.seqBells

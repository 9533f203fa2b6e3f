/- Checks for SeqBells. No condition. -/
import Derived.Test.YtaclekenckkgcaaGreatDoorQSeqBells
namespace Go.Proofs.YtaclekenckkgcaaGreatDoor.seqBells
open Go.Sx Go.ChangeShapes Go.WideShapes Go.ChangeAt Go.RowKit
set_option linter.unusedVariables false
set_option linter.unusedSimpArgs false
set_option maxRecDepth 1000000
theorem ck5_14 : chkL pcX (accT G 6 64 af6.res Ts6) M5_14 T5_14.pc = true := by kernel_rfl
theorem ck5_15 : chkL pcX (accT G 6 64 af6.res Ts6) M5_15 T5_15.pc = true := by kernel_rfl
theorem ck6_0 : chkL pcX (accT G 6 64 af6.res Ts7) M6_0 T6_0.pc = true := by kernel_rfl
theorem ck6_1 : chkL pcX (accT G 6 64 af6.res Ts7) M6_1 T6_1.pc = true := by kernel_rfl
end Go.Proofs.YtaclekenckkgcaaGreatDoor.seqBells

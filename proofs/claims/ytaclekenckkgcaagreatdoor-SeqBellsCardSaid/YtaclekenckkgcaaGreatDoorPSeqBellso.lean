/- Checks for SeqBells. No condition. -/
import Derived.Test.YtaclekenckkgcaaGreatDoorQSeqBells
namespace Go.Proofs.YtaclekenckkgcaaGreatDoor.seqBells
open Go.Sx Go.ChangeShapes Go.WideShapes Go.ChangeAt Go.RowKit
set_option linter.unusedVariables false
set_option linter.unusedSimpArgs false
set_option maxRecDepth 1000000
theorem ck6_6 : chkL pcX (accT G 6 64 af6.res Ts7) M6_6 T6_6.pc = true := by kernel_rfl
theorem ck6_7 : chkL pcX (accT G 6 64 af6.res Ts7) M6_7 T6_7.pc = true := by kernel_rfl
theorem ck6_8 : chkL pcX (accT G 6 64 af6.res Ts7) M6_8 T6_8.pc = true := by kernel_rfl
theorem ck6_9 : chkL pcX (accT G 6 64 af6.res Ts7) M6_9 T6_9.pc = true := by kernel_rfl
end Go.Proofs.YtaclekenckkgcaaGreatDoor.seqBells

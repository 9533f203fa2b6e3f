/- Checks for SeqBells. No condition. -/
import Derived.Test.YtaclekenckkgcaaGreatDoorQSeqBells
namespace Go.Proofs.YtaclekenckkgcaaGreatDoor.seqBells
open Go.Sx Go.ChangeShapes Go.WideShapes Go.ChangeAt Go.RowKit
set_option linter.unusedVariables false
set_option linter.unusedSimpArgs false
set_option maxRecDepth 1000000
theorem ck6_10 : chkL pcX (accT G 6 64 af6.res Ts7) M6_10 T6_10.pc = true := by kernel_rfl
theorem ck6_11 : chkL pcX (accT G 6 64 af6.res Ts7) M6_11 T6_11.pc = true := by kernel_rfl
theorem ck6_12 : chkL pcX (accT G 6 64 af6.res Ts7) M6_12 T6_12.pc = true := by kernel_rfl
theorem ck6_13 : chkL pcX (accT G 6 64 af6.res Ts7) M6_13 T6_13.pc = true := by kernel_rfl
end Go.Proofs.YtaclekenckkgcaaGreatDoor.seqBells

/- Checks for SeqBells. No condition. -/
import Derived.Test.YtaclekenckkgcaaGreatDoorQSeqBells
namespace Go.Proofs.YtaclekenckkgcaaGreatDoor.seqBells
open Go.Sx Go.ChangeShapes Go.WideShapes Go.ChangeAt Go.RowKit
set_option linter.unusedVariables false
set_option linter.unusedSimpArgs false
set_option maxRecDepth 1000000
theorem ck6_14 : chkL pcX (accT G 6 64 af6.res Ts7) M6_14 T6_14.pc = true := by kernel_rfl
theorem ck6_15 : chkL pcX (accT G 6 64 af6.res Ts7) M6_15 T6_15.pc = true := by kernel_rfl
theorem ck7_0 : chkL pcX (accT G 6 64 af6.res Ts8) M7_0 T7_0.pc = true := by kernel_rfl
theorem ck7_1 : chkL pcX (accT G 6 64 af6.res Ts8) M7_1 T7_1.pc = true := by kernel_rfl
end Go.Proofs.YtaclekenckkgcaaGreatDoor.seqBells

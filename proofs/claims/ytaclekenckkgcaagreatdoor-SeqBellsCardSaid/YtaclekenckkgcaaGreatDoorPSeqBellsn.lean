/- Checks for SeqBells. No condition. -/
import Derived.Test.YtaclekenckkgcaaGreatDoorQSeqBells
namespace Go.Proofs.YtaclekenckkgcaaGreatDoor.seqBells
open Go.Sx Go.ChangeShapes Go.WideShapes Go.ChangeAt Go.RowKit
set_option linter.unusedVariables false
set_option linter.unusedSimpArgs false
set_option maxRecDepth 1000000
theorem ck6_2 : chkL pcX (accT G 6 64 af6.res Ts7) M6_2 T6_2.pc = true := by kernel_rfl
theorem ck6_3 : chkL pcX (accT G 6 64 af6.res Ts7) M6_3 T6_3.pc = true := by kernel_rfl
theorem ck6_4 : chkL pcX (accT G 6 64 af6.res Ts7) M6_4 T6_4.pc = true := by kernel_rfl
theorem ck6_5 : chkL pcX (accT G 6 64 af6.res Ts7) M6_5 T6_5.pc = true := by kernel_rfl
end Go.Proofs.YtaclekenckkgcaaGreatDoor.seqBells

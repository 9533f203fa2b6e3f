/- Checks for SeqBells. No condition. -/
import Derived.Test.YtaclekenckkgcaaGreatDoorQSeqBells
namespace Go.Proofs.YtaclekenckkgcaaGreatDoor.seqBells
open Go.Sx Go.ChangeShapes Go.WideShapes Go.ChangeAt Go.RowKit
set_option linter.unusedVariables false
set_option linter.unusedSimpArgs false
set_option maxRecDepth 1000000
theorem h4_3_2 : chkL pcX (accT G 6 64 af6.res Ts5) (M4_3.go ([false, false, true])) (M4_3.pcGo ([false, false, true]) T4_3.pc) = true := by kernel_rfl
theorem h4_3_3 : chkL pcX (accT G 6 64 af6.res Ts5) (M4_3.go ([false, false, false, true])) (M4_3.pcGo ([false, false, false, true]) T4_3.pc) = true := by kernel_rfl
theorem ck5_0 : chkL pcX (accT G 6 64 af6.res Ts6) M5_0 T5_0.pc = true := by kernel_rfl
theorem ck5_1 : chkL pcX (accT G 6 64 af6.res Ts6) M5_1 T5_1.pc = true := by kernel_rfl
end Go.Proofs.YtaclekenckkgcaaGreatDoor.seqBells

/- Checks for SeqBells. No condition. -/
import Derived.Test.YtaclekenckkgcaaGreatDoorQSeqBells
namespace Go.Proofs.YtaclekenckkgcaaGreatDoor.seqBells
open Go.Sx Go.ChangeShapes Go.WideShapes Go.ChangeAt Go.RowKit
set_option linter.unusedVariables false
set_option linter.unusedSimpArgs false
set_option maxRecDepth 1000000
theorem h4_0_1 : chkL pcX (accT G 6 64 af6.res Ts5) (M4_0.go ([false, true])) (M4_0.pcGo ([false, true]) T4_0.pc) = true := by kernel_rfl
theorem h4_0_2 : chkL pcX (accT G 6 64 af6.res Ts5) (M4_0.go ([false, false, true])) (M4_0.pcGo ([false, false, true]) T4_0.pc) = true := by kernel_rfl
theorem h4_0_3 : chkL pcX (accT G 6 64 af6.res Ts5) (M4_0.go ([false, false, false, true])) (M4_0.pcGo ([false, false, false, true]) T4_0.pc) = true := by kernel_rfl
theorem sc4_1 : chkSk pcX (accT G 6 64 af6.res Ts5) sk4_1 M4_1 T4_1.pc = true := by kernel_rfl
end Go.Proofs.YtaclekenckkgcaaGreatDoor.seqBells

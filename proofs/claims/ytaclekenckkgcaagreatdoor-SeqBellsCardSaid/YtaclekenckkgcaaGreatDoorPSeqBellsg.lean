/- Checks for SeqBells. No condition. -/
import Derived.Test.YtaclekenckkgcaaGreatDoorQSeqBells
namespace Go.Proofs.YtaclekenckkgcaaGreatDoor.seqBells
open Go.Sx Go.ChangeShapes Go.WideShapes Go.ChangeAt Go.RowKit
set_option linter.unusedVariables false
set_option linter.unusedSimpArgs false
set_option maxRecDepth 1000000
theorem sc4_2 : chkSk pcX (accT G 6 64 af6.res Ts5) sk4_2 M4_2 T4_2.pc = true := by kernel_rfl
theorem h4_2_0 : chkL pcX (accT G 6 64 af6.res Ts5) (M4_2.go ([true])) (M4_2.pcGo ([true]) T4_2.pc) = true := by kernel_rfl
theorem h4_2_1 : chkL pcX (accT G 6 64 af6.res Ts5) (M4_2.go ([false, true])) (M4_2.pcGo ([false, true]) T4_2.pc) = true := by kernel_rfl
theorem h4_2_2 : chkL pcX (accT G 6 64 af6.res Ts5) (M4_2.go ([false, false, true])) (M4_2.pcGo ([false, false, true]) T4_2.pc) = true := by kernel_rfl
end Go.Proofs.YtaclekenckkgcaaGreatDoor.seqBells

/- Checks for SeqBells. No condition. -/
import Derived.Test.YtaclekenckkgcaaGreatDoorQSeqBells
namespace Go.Proofs.YtaclekenckkgcaaGreatDoor.seqBells
open Go.Sx Go.ChangeShapes Go.WideShapes Go.ChangeAt Go.RowKit
set_option linter.unusedVariables false
set_option linter.unusedSimpArgs false
set_option maxRecDepth 1000000
theorem ck3_2 : chkL pcX (accT G 6 64 af6.res Ts4) M3_2 T3_2.pc = true := by kernel_rfl
theorem ck3_3 : chkL pcX (accT G 6 64 af6.res Ts4) M3_3 T3_3.pc = true := by kernel_rfl
theorem sc4_0 : chkSk pcX (accT G 6 64 af6.res Ts5) sk4_0 M4_0 T4_0.pc = true := by kernel_rfl
theorem h4_0_0 : chkL pcX (accT G 6 64 af6.res Ts5) (M4_0.go ([true])) (M4_0.pcGo ([true]) T4_0.pc) = true := by kernel_rfl
end Go.Proofs.YtaclekenckkgcaaGreatDoor.seqBells

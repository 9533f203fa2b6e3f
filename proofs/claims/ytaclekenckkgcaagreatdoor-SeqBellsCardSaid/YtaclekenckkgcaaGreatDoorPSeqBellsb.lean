/- Checks for SeqBells. No condition. -/
import Derived.Test.YtaclekenckkgcaaGreatDoorQSeqBells
namespace Go.Proofs.YtaclekenckkgcaaGreatDoor.seqBells
open Go.Sx Go.ChangeShapes Go.WideShapes Go.ChangeAt Go.RowKit
set_option linter.unusedVariables false
set_option linter.unusedSimpArgs false
set_option maxRecDepth 1000000
theorem h1_0_2 : chkL pcX (accT G 6 64 af6.res Ts2) (M1_0.go ([false, true])) (M1_0.pcGo ([false, true]) T1_0.pc) = true := by kernel_rfl
theorem h1_0_3 : chkL pcX (accT G 6 64 af6.res Ts2) (M1_0.go ([false, false])) (M1_0.pcGo ([false, false]) T1_0.pc) = true := by kernel_rfl
theorem ck2_0 : chkL pcX (accT G 6 64 af6.res Ts3) M2_0 T2_0.pc = true := by kernel_rfl
theorem ck2_1 : chkL pcX (accT G 6 64 af6.res Ts3) M2_1 T2_1.pc = true := by kernel_rfl
end Go.Proofs.YtaclekenckkgcaaGreatDoor.seqBells

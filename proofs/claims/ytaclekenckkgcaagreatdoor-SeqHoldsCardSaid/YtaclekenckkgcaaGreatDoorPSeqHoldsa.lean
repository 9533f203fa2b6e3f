/- Checks for SeqHolds. No condition. -/
import Derived.Test.YtaclekenckkgcaaGreatDoorQSeqHolds
namespace Go.Proofs.YtaclekenckkgcaaGreatDoor.seqHolds
open Go.Sx Go.ChangeShapes Go.WideShapes Go.ChangeAt Go.RowKit
set_option linter.unusedVariables false
set_option linter.unusedSimpArgs false
set_option maxRecDepth 1000000
theorem ck0_0 : chkL pcX (accT G 6 64 af4.res Ts1) M0_0 T0_0.pc = true := by kernel_rfl
theorem sc1_0 : chkSk pcX (accT G 6 64 af4.res Ts2) sk1_0 M1_0 T1_0.pc = true := by kernel_rfl
theorem h1_0_0 : chkL pcX (accT G 6 64 af4.res Ts2) (M1_0.go ([true, true])) (M1_0.pcGo ([true, true]) T1_0.pc) = true := by kernel_rfl
theorem h1_0_1 : chkL pcX (accT G 6 64 af4.res Ts2) (M1_0.go ([true, false, true])) (M1_0.pcGo ([true, false, true]) T1_0.pc) = true := by kernel_rfl
theorem h1_0_2 : chkL pcX (accT G 6 64 af4.res Ts2) (M1_0.go ([true, false, false, true])) (M1_0.pcGo ([true, false, false, true]) T1_0.pc) = true := by kernel_rfl
theorem h1_0_3 : chkL pcX (accT G 6 64 af4.res Ts2) (M1_0.go ([true, false, false, false, true])) (M1_0.pcGo ([true, false, false, false, true]) T1_0.pc) = true := by kernel_rfl
end Go.Proofs.YtaclekenckkgcaaGreatDoor.seqHolds

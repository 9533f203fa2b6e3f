/- Checks for SeqBells. No condition. -/
import Derived.Test.YtaclekenckkgcaaGreatDoorQSeqBells
namespace Go.Proofs.YtaclekenckkgcaaGreatDoor.seqBells
open Go.Sx Go.ChangeShapes Go.WideShapes Go.ChangeAt Go.RowKit
set_option linter.unusedVariables false
set_option linter.unusedSimpArgs false
set_option maxRecDepth 1000000
theorem ck2_2 : chkL pcX (accT G 6 64 af6.res Ts3) M2_2 T2_2.pc = true := by kernel_rfl
theorem ck2_3 : chkL pcX (accT G 6 64 af6.res Ts3) M2_3 T2_3.pc = true := by kernel_rfl
theorem ck3_0 : chkL pcX (accT G 6 64 af6.res Ts4) M3_0 T3_0.pc = true := by kernel_rfl
theorem ck3_1 : chkL pcX (accT G 6 64 af6.res Ts4) M3_1 T3_1.pc = true := by kernel_rfl
theorem ck0_0 : chkL pcX (accT G 6 64 af6.res Ts1) M0_0 T0_0.pc = true := by kernel_rfl
theorem sc1_0 : chkSk pcX (accT G 6 64 af6.res Ts2) sk1_0 M1_0 T1_0.pc = true := by kernel_rfl
theorem h1_0_0 : chkL pcX (accT G 6 64 af6.res Ts2) (M1_0.go ([true, true])) (M1_0.pcGo ([true, true]) T1_0.pc) = true := by kernel_rfl
theorem h1_0_1 : chkL pcX (accT G 6 64 af6.res Ts2) (M1_0.go ([true, false])) (M1_0.pcGo ([true, false]) T1_0.pc) = true := by kernel_rfl
end Go.Proofs.YtaclekenckkgcaaGreatDoor.seqBells

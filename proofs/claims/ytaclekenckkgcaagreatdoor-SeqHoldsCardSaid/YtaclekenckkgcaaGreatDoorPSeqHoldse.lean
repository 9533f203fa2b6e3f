/- Checks for SeqHolds. No condition. -/
import Derived.Test.YtaclekenckkgcaaGreatDoorQSeqHolds
namespace Go.Proofs.YtaclekenckkgcaaGreatDoor.seqHolds
open Go.Sx Go.ChangeShapes Go.WideShapes Go.ChangeAt Go.RowKit
set_option linter.unusedVariables false
set_option linter.unusedSimpArgs false
set_option maxRecDepth 1000000
theorem h1_0_22 : chkL pcX (accT G 6 64 af4.res Ts2) (M1_0.go ([false, false, true] ++ List.replicate 6 false ++ [true])) (M1_0.pcGo ([false, false, true] ++ List.replicate 6 false ++ [true]) T1_0.pc) = true := by kernel_rfl
theorem h1_0_23 : chkL pcX (accT G 6 64 af4.res Ts2) (M1_0.go ([false, false, true] ++ List.replicate 7 false ++ [true])) (M1_0.pcGo ([false, false, true] ++ List.replicate 7 false ++ [true]) T1_0.pc) = true := by kernel_rfl
theorem h1_0_24 : chkL pcX (accT G 6 64 af4.res Ts2) (M1_0.go ([false, false, false, true, true])) (M1_0.pcGo ([false, false, false, true, true]) T1_0.pc) = true := by kernel_rfl
theorem h1_0_25 : chkL pcX (accT G 6 64 af4.res Ts2) (M1_0.go ([false, false, false, true, false, true])) (M1_0.pcGo ([false, false, false, true, false, true]) T1_0.pc) = true := by kernel_rfl
theorem h1_0_26 : chkL pcX (accT G 6 64 af4.res Ts2) (M1_0.go ([false, false, false, true, false, false, true])) (M1_0.pcGo ([false, false, false, true, false, false, true]) T1_0.pc) = true := by kernel_rfl
theorem h1_0_27 : chkL pcX (accT G 6 64 af4.res Ts2) (M1_0.go ([false, false, false, true, false, false, false, true])) (M1_0.pcGo ([false, false, false, true, false, false, false, true]) T1_0.pc) = true := by kernel_rfl
end Go.Proofs.YtaclekenckkgcaaGreatDoor.seqHolds

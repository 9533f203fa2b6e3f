/- Checks for SeqHolds. No condition. -/
import Derived.Test.YtaclekenckkgcaaGreatDoorQSeqHolds
namespace Go.Proofs.YtaclekenckkgcaaGreatDoor.seqHolds
open Go.Sx Go.ChangeShapes Go.WideShapes Go.ChangeAt Go.RowKit
set_option linter.unusedVariables false
set_option linter.unusedSimpArgs false
set_option maxRecDepth 1000000
theorem h1_0_16 : chkL pcX (accT G 6 64 af4.res Ts2) (M1_0.go ([false, false, true, true])) (M1_0.pcGo ([false, false, true, true]) T1_0.pc) = true := by kernel_rfl
theorem h1_0_17 : chkL pcX (accT G 6 64 af4.res Ts2) (M1_0.go ([false, false, true, false, true])) (M1_0.pcGo ([false, false, true, false, true]) T1_0.pc) = true := by kernel_rfl
theorem h1_0_18 : chkL pcX (accT G 6 64 af4.res Ts2) (M1_0.go ([false, false, true, false, false, true])) (M1_0.pcGo ([false, false, true, false, false, true]) T1_0.pc) = true := by kernel_rfl
theorem h1_0_19 : chkL pcX (accT G 6 64 af4.res Ts2) (M1_0.go ([false, false, true, false, false, false, true])) (M1_0.pcGo ([false, false, true, false, false, false, true]) T1_0.pc) = true := by kernel_rfl
theorem h1_0_20 : chkL pcX (accT G 6 64 af4.res Ts2) (M1_0.go ([false, false, true] ++ List.replicate 4 false ++ [true])) (M1_0.pcGo ([false, false, true] ++ List.replicate 4 false ++ [true]) T1_0.pc) = true := by kernel_rfl
theorem h1_0_21 : chkL pcX (accT G 6 64 af4.res Ts2) (M1_0.go ([false, false, true] ++ List.replicate 5 false ++ [true])) (M1_0.pcGo ([false, false, true] ++ List.replicate 5 false ++ [true]) T1_0.pc) = true := by kernel_rfl
end Go.Proofs.YtaclekenckkgcaaGreatDoor.seqHolds

/- Checks for SeqHolds. No condition. -/
import Derived.Test.YtaclekenckkgcaaGreatDoorQSeqHolds
namespace Go.Proofs.YtaclekenckkgcaaGreatDoor.seqHolds
open Go.Sx Go.ChangeShapes Go.WideShapes Go.ChangeAt Go.RowKit
set_option linter.unusedVariables false
set_option linter.unusedSimpArgs false
set_option maxRecDepth 1000000
theorem h1_0_4 : chkL pcX (accT G 6 64 af4.res Ts2) (M1_0.go ([true] ++ List.replicate 4 false ++ [true])) (M1_0.pcGo ([true] ++ List.replicate 4 false ++ [true]) T1_0.pc) = true := by kernel_rfl
theorem h1_0_5 : chkL pcX (accT G 6 64 af4.res Ts2) (M1_0.go ([true] ++ List.replicate 5 false ++ [true])) (M1_0.pcGo ([true] ++ List.replicate 5 false ++ [true]) T1_0.pc) = true := by kernel_rfl
theorem h1_0_6 : chkL pcX (accT G 6 64 af4.res Ts2) (M1_0.go ([true] ++ List.replicate 6 false ++ [true])) (M1_0.pcGo ([true] ++ List.replicate 6 false ++ [true]) T1_0.pc) = true := by kernel_rfl
theorem h1_0_7 : chkL pcX (accT G 6 64 af4.res Ts2) (M1_0.go ([true] ++ List.replicate 7 false ++ [true])) (M1_0.pcGo ([true] ++ List.replicate 7 false ++ [true]) T1_0.pc) = true := by kernel_rfl
theorem h1_0_8 : chkL pcX (accT G 6 64 af4.res Ts2) (M1_0.go ([false, true, true])) (M1_0.pcGo ([false, true, true]) T1_0.pc) = true := by kernel_rfl
theorem h1_0_9 : chkL pcX (accT G 6 64 af4.res Ts2) (M1_0.go ([false, true, false, true])) (M1_0.pcGo ([false, true, false, true]) T1_0.pc) = true := by kernel_rfl
end Go.Proofs.YtaclekenckkgcaaGreatDoor.seqHolds

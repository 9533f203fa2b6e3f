/- Checks for SeqHolds. No condition. -/
import Derived.Test.YtaclekenckkgcaaGreatDoorQSeqHolds
namespace Go.Proofs.YtaclekenckkgcaaGreatDoor.seqHolds
open Go.Sx Go.ChangeShapes Go.WideShapes Go.ChangeAt Go.RowKit
set_option linter.unusedVariables false
set_option linter.unusedSimpArgs false
set_option maxRecDepth 1000000
theorem h1_0_40 : chkL pcX (accT G 6 64 af4.res Ts2) (M1_0.go (List.replicate 5 false ++ [true, true])) (M1_0.pcGo (List.replicate 5 false ++ [true, true]) T1_0.pc) = true := by kernel_rfl
theorem h1_0_41 : chkL pcX (accT G 6 64 af4.res Ts2) (M1_0.go (List.replicate 5 false ++ [true, false, true])) (M1_0.pcGo (List.replicate 5 false ++ [true, false, true]) T1_0.pc) = true := by kernel_rfl
theorem h1_0_42 : chkL pcX (accT G 6 64 af4.res Ts2) (M1_0.go (List.replicate 5 false ++ [true, false, false, true])) (M1_0.pcGo (List.replicate 5 false ++ [true, false, false, true]) T1_0.pc) = true := by kernel_rfl
theorem h1_0_43 : chkL pcX (accT G 6 64 af4.res Ts2) (M1_0.go (List.replicate 5 false ++ [true, false, false, false, true])) (M1_0.pcGo (List.replicate 5 false ++ [true, false, false, false, true]) T1_0.pc) = true := by kernel_rfl
theorem h1_0_44 : chkL pcX (accT G 6 64 af4.res Ts2) (M1_0.go (List.replicate 5 false ++ [true] ++ List.replicate 4 false ++ [true])) (M1_0.pcGo (List.replicate 5 false ++ [true] ++ List.replicate 4 false ++ [true]) T1_0.pc) = true := by kernel_rfl
theorem h1_0_45 : chkL pcX (accT G 6 64 af4.res Ts2) (M1_0.go (List.replicate 5 false ++ [true] ++ List.replicate 5 false ++ [true])) (M1_0.pcGo (List.replicate 5 false ++ [true] ++ List.replicate 5 false ++ [true]) T1_0.pc) = true := by kernel_rfl
end Go.Proofs.YtaclekenckkgcaaGreatDoor.seqHolds

/- Checks for SeqHolds. No condition. -/
import Derived.Test.YtaclekenckkgcaaGreatDoorQSeqHolds
namespace Go.Proofs.YtaclekenckkgcaaGreatDoor.seqHolds
open Go.Sx Go.ChangeShapes Go.WideShapes Go.ChangeAt Go.RowKit
set_option linter.unusedVariables false
set_option linter.unusedSimpArgs false
set_option maxRecDepth 1000000
theorem h1_0_46 : chkL pcX (accT G 6 64 af4.res Ts2) (M1_0.go (List.replicate 5 false ++ [true] ++ List.replicate 6 false ++ [true])) (M1_0.pcGo (List.replicate 5 false ++ [true] ++ List.replicate 6 false ++ [true]) T1_0.pc) = true := by kernel_rfl
theorem h1_0_47 : chkL pcX (accT G 6 64 af4.res Ts2) (M1_0.go (List.replicate 5 false ++ [true] ++ List.replicate 7 false ++ [true])) (M1_0.pcGo (List.replicate 5 false ++ [true] ++ List.replicate 7 false ++ [true]) T1_0.pc) = true := by kernel_rfl
theorem ckF_0 : chkL pcX (accF G af4.res) MF_0 T2_0.pc = true := by kernel_rfl
theorem ckF_1 : chkL pcX (accF G af4.res) MF_1 T2_1.pc = true := by kernel_rfl
theorem ckF_2 : chkL pcX (accF G af4.res) MF_2 T2_2.pc = true := by kernel_rfl
theorem ckF_3 : chkL pcX (accF G af4.res) MF_3 T2_3.pc = true := by kernel_rfl
end Go.Proofs.YtaclekenckkgcaaGreatDoor.seqHolds

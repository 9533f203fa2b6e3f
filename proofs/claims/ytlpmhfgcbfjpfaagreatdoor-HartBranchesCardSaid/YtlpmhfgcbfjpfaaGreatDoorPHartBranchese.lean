/- Checks for HartBranches. No condition. -/
import Derived.Test.YtlpmhfgcbfjpfaaGreatDoorQHartBranches
namespace Go.Proofs.YtlpmhfgcbfjpfaaGreatDoor.hartBranches
open Go.Sx Go.ChangeShapes Go.WideShapes Go.ChangeAt Go.RowKit
set_option linter.unusedVariables false
set_option linter.unusedSimpArgs false
set_option maxRecDepth 1000000
theorem h3_1_0 : chkL pcX (accT G 2 64 af5.res Ts4) (M3_1.go ([true, true])) (M3_1.pcGo ([true, true]) T3_1.pc) = true := by kernel_rfl
theorem h3_1_1 : chkL pcX (accT G 2 64 af5.res Ts4) (M3_1.go ([true, false])) (M3_1.pcGo ([true, false]) T3_1.pc) = true := by kernel_rfl
theorem h3_1_2 : chkL pcX (accT G 2 64 af5.res Ts4) (M3_1.go ([false, true])) (M3_1.pcGo ([false, true]) T3_1.pc) = true := by kernel_rfl
end Go.Proofs.YtlpmhfgcbfjpfaaGreatDoor.hartBranches

/- Checks for HartBranches. No condition. -/
import Derived.Test.YtlpmhfgcbfjpfaaGreatDoorQHartBranches
namespace Go.Proofs.YtlpmhfgcbfjpfaaGreatDoor.hartBranches
open Go.Sx Go.ChangeShapes Go.WideShapes Go.ChangeAt Go.RowKit
set_option linter.unusedVariables false
set_option linter.unusedSimpArgs false
set_option maxRecDepth 1000000
theorem h3_0_2 : chkL pcX (accT G 2 64 af5.res Ts4) (M3_0.go ([false, true])) (M3_0.pcGo ([false, true]) T3_0.pc) = true := by kernel_rfl
theorem h3_0_3 : chkL pcX (accT G 2 64 af5.res Ts4) (M3_0.go ([false, false])) (M3_0.pcGo ([false, false]) T3_0.pc) = true := by kernel_rfl
theorem sc3_1 : chkSk pcX (accT G 2 64 af5.res Ts4) sk3_1 M3_1 T3_1.pc = true := by kernel_rfl
end Go.Proofs.YtlpmhfgcbfjpfaaGreatDoor.hartBranches

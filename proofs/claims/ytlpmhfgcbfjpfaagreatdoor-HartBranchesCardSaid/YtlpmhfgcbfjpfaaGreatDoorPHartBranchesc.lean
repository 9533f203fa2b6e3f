/- Checks for HartBranches. No condition. -/
import Derived.Test.YtlpmhfgcbfjpfaaGreatDoorQHartBranches
namespace Go.Proofs.YtlpmhfgcbfjpfaaGreatDoor.hartBranches
open Go.Sx Go.ChangeShapes Go.WideShapes Go.ChangeAt Go.RowKit
set_option linter.unusedVariables false
set_option linter.unusedSimpArgs false
set_option maxRecDepth 1000000
theorem sc3_0 : chkSk pcX (accT G 2 64 af5.res Ts4) sk3_0 M3_0 T3_0.pc = true := by kernel_rfl
theorem h3_0_0 : chkL pcX (accT G 2 64 af5.res Ts4) (M3_0.go ([true, true])) (M3_0.pcGo ([true, true]) T3_0.pc) = true := by kernel_rfl
theorem h3_0_1 : chkL pcX (accT G 2 64 af5.res Ts4) (M3_0.go ([true, false])) (M3_0.pcGo ([true, false]) T3_0.pc) = true := by kernel_rfl
end Go.Proofs.YtlpmhfgcbfjpfaaGreatDoor.hartBranches

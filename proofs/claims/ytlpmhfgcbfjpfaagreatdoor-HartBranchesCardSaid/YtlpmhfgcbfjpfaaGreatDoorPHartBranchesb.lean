/- Checks for HartBranches. No condition. -/
import Derived.Test.YtlpmhfgcbfjpfaaGreatDoorQHartBranches
namespace Go.Proofs.YtlpmhfgcbfjpfaaGreatDoor.hartBranches
open Go.Sx Go.ChangeShapes Go.WideShapes Go.ChangeAt Go.RowKit
set_option linter.unusedVariables false
set_option linter.unusedSimpArgs false
set_option maxRecDepth 1000000
theorem h1_0_1 : chkL pcX (accT G 2 64 af5.res Ts2) (M1_0.go ([false])) (M1_0.pcGo ([false]) T1_0.pc) = true := by kernel_rfl
theorem ck2_0 : chkL pcX (accT G 2 64 af5.res Ts3) M2_0 T2_0.pc = true := by kernel_rfl
theorem ck2_1 : chkL pcX (accT G 2 64 af5.res Ts3) M2_1 T2_1.pc = true := by kernel_rfl
end Go.Proofs.YtlpmhfgcbfjpfaaGreatDoor.hartBranches

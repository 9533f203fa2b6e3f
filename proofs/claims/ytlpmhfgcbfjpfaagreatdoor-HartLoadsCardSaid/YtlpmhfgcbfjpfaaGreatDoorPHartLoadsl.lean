/- Checks for HartLoads. No condition. -/
import Derived.Test.YtlpmhfgcbfjpfaaGreatDoorQHartLoads
namespace Go.Proofs.YtlpmhfgcbfjpfaaGreatDoor.hartLoads
open Go.Sx Go.ChangeShapes Go.WideShapes Go.ChangeAt Go.RowKit
set_option linter.unusedVariables false
set_option linter.unusedSimpArgs false
set_option maxRecDepth 1000000
theorem h3_7_1 : chkL pcX (accT G 2 64 af6.res Ts4) (M3_7.go ([true, false])) (M3_7.pcGo ([true, false]) T3_7.pc) = true := by kernel_rfl
theorem h3_7_2 : chkL pcX (accT G 2 64 af6.res Ts4) (M3_7.go ([false, true])) (M3_7.pcGo ([false, true]) T3_7.pc) = true := by kernel_rfl
theorem h3_7_3 : chkL pcX (accT G 2 64 af6.res Ts4) (M3_7.go ([false, false])) (M3_7.pcGo ([false, false]) T3_7.pc) = true := by kernel_rfl
theorem ckF_0 : chkL pcX (accF G af6.res) MF_0 T4_0.pc = true := by kernel_rfl
theorem scF_1 : chkSk pcX (accF G af6.res) skF_1 MF_1 T4_1.pc = true := by kernel_rfl
end Go.Proofs.YtlpmhfgcbfjpfaaGreatDoor.hartLoads

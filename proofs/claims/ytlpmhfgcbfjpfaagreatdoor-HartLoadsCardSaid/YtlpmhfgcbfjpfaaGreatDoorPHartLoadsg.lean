/- Checks for HartLoads. No condition. -/
import Derived.Test.YtlpmhfgcbfjpfaaGreatDoorQHartLoads
namespace Go.Proofs.YtlpmhfgcbfjpfaaGreatDoor.hartLoads
open Go.Sx Go.ChangeShapes Go.WideShapes Go.ChangeAt Go.RowKit
set_option linter.unusedVariables false
set_option linter.unusedSimpArgs false
set_option maxRecDepth 1000000
theorem h3_2_1 : chkL pcX (accT G 2 64 af6.res Ts4) (M3_2.go ([true, false])) (M3_2.pcGo ([true, false]) T3_2.pc) = true := by kernel_rfl
theorem h3_2_2 : chkL pcX (accT G 2 64 af6.res Ts4) (M3_2.go ([false, true])) (M3_2.pcGo ([false, true]) T3_2.pc) = true := by kernel_rfl
theorem h3_2_3 : chkL pcX (accT G 2 64 af6.res Ts4) (M3_2.go ([false, false])) (M3_2.pcGo ([false, false]) T3_2.pc) = true := by kernel_rfl
theorem sc3_3 : chkSk pcX (accT G 2 64 af6.res Ts4) sk3_3 M3_3 T3_3.pc = true := by kernel_rfl
theorem h3_3_0 : chkL pcX (accT G 2 64 af6.res Ts4) (M3_3.go ([true, true])) (M3_3.pcGo ([true, true]) T3_3.pc) = true := by kernel_rfl
end Go.Proofs.YtlpmhfgcbfjpfaaGreatDoor.hartLoads

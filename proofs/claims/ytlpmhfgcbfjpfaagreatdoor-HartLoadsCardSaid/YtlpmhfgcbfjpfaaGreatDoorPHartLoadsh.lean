/- Checks for HartLoads. No condition. -/
import Derived.Test.YtlpmhfgcbfjpfaaGreatDoorQHartLoads
namespace Go.Proofs.YtlpmhfgcbfjpfaaGreatDoor.hartLoads
open Go.Sx Go.ChangeShapes Go.WideShapes Go.ChangeAt Go.RowKit
set_option linter.unusedVariables false
set_option linter.unusedSimpArgs false
set_option maxRecDepth 1000000
theorem h3_3_1 : chkL pcX (accT G 2 64 af6.res Ts4) (M3_3.go ([true, false])) (M3_3.pcGo ([true, false]) T3_3.pc) = true := by kernel_rfl
theorem h3_3_2 : chkL pcX (accT G 2 64 af6.res Ts4) (M3_3.go ([false, true])) (M3_3.pcGo ([false, true]) T3_3.pc) = true := by kernel_rfl
theorem h3_3_3 : chkL pcX (accT G 2 64 af6.res Ts4) (M3_3.go ([false, false])) (M3_3.pcGo ([false, false]) T3_3.pc) = true := by kernel_rfl
theorem sc3_4 : chkSk pcX (accT G 2 64 af6.res Ts4) sk3_4 M3_4 T3_4.pc = true := by kernel_rfl
theorem h3_4_0 : chkL pcX (accT G 2 64 af6.res Ts4) (M3_4.go ([true, true])) (M3_4.pcGo ([true, true]) T3_4.pc) = true := by kernel_rfl
end Go.Proofs.YtlpmhfgcbfjpfaaGreatDoor.hartLoads

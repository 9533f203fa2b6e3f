/- Checks for HartLoads. No condition. -/
import Derived.Test.YtlpmhfgcbfjpfaaGreatDoorQHartLoads
namespace Go.Proofs.YtlpmhfgcbfjpfaaGreatDoor.hartLoads
open Go.Sx Go.ChangeShapes Go.WideShapes Go.ChangeAt Go.RowKit
set_option linter.unusedVariables false
set_option linter.unusedSimpArgs false
set_option maxRecDepth 1000000
theorem h3_6_1 : chkL pcX (accT G 2 64 af6.res Ts4) (M3_6.go ([true, false])) (M3_6.pcGo ([true, false]) T3_6.pc) = true := by kernel_rfl
theorem h3_6_2 : chkL pcX (accT G 2 64 af6.res Ts4) (M3_6.go ([false, true])) (M3_6.pcGo ([false, true]) T3_6.pc) = true := by kernel_rfl
theorem h3_6_3 : chkL pcX (accT G 2 64 af6.res Ts4) (M3_6.go ([false, false])) (M3_6.pcGo ([false, false]) T3_6.pc) = true := by kernel_rfl
theorem sc3_7 : chkSk pcX (accT G 2 64 af6.res Ts4) sk3_7 M3_7 T3_7.pc = true := by kernel_rfl
theorem h3_7_0 : chkL pcX (accT G 2 64 af6.res Ts4) (M3_7.go ([true, true])) (M3_7.pcGo ([true, true]) T3_7.pc) = true := by kernel_rfl
end Go.Proofs.YtlpmhfgcbfjpfaaGreatDoor.hartLoads

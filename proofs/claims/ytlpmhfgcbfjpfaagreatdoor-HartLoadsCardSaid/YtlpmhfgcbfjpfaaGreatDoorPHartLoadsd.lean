/- Checks for HartLoads. No condition. -/
import Derived.Test.YtlpmhfgcbfjpfaaGreatDoorQHartLoads
namespace Go.Proofs.YtlpmhfgcbfjpfaaGreatDoor.hartLoads
open Go.Sx Go.ChangeShapes Go.WideShapes Go.ChangeAt Go.RowKit
set_option linter.unusedVariables false
set_option linter.unusedSimpArgs false
set_option maxRecDepth 1000000
theorem ck2_5 : chkL pcX (accT G 2 64 af6.res Ts3) M2_5 T2_5.pc = true := by kernel_rfl
theorem ck2_6 : chkL pcX (accT G 2 64 af6.res Ts3) M2_6 T2_6.pc = true := by kernel_rfl
theorem ck2_7 : chkL pcX (accT G 2 64 af6.res Ts3) M2_7 T2_7.pc = true := by kernel_rfl
theorem sc3_0 : chkSk pcX (accT G 2 64 af6.res Ts4) sk3_0 M3_0 T3_0.pc = true := by kernel_rfl
theorem h3_0_0 : chkL pcX (accT G 2 64 af6.res Ts4) (M3_0.go ([true, true])) (M3_0.pcGo ([true, true]) T3_0.pc) = true := by kernel_rfl
end Go.Proofs.YtlpmhfgcbfjpfaaGreatDoor.hartLoads

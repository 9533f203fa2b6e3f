/- Checks for HartLoads. No condition. -/
import Derived.Test.YtlpmhfgcbfjpfaaGreatDoorQHartLoads
namespace Go.Proofs.YtlpmhfgcbfjpfaaGreatDoor.hartLoads
open Go.Sx Go.ChangeShapes Go.WideShapes Go.ChangeAt Go.RowKit
set_option linter.unusedVariables false
set_option linter.unusedSimpArgs false
set_option maxRecDepth 1000000
theorem ck2_0 : chkL pcX (accT G 2 64 af6.res Ts3) M2_0 T2_0.pc = true := by kernel_rfl
theorem ck2_1 : chkL pcX (accT G 2 64 af6.res Ts3) M2_1 T2_1.pc = true := by kernel_rfl
theorem ck2_2 : chkL pcX (accT G 2 64 af6.res Ts3) M2_2 T2_2.pc = true := by kernel_rfl
theorem ck2_3 : chkL pcX (accT G 2 64 af6.res Ts3) M2_3 T2_3.pc = true := by kernel_rfl
theorem ck2_4 : chkL pcX (accT G 2 64 af6.res Ts3) M2_4 T2_4.pc = true := by kernel_rfl
end Go.Proofs.YtlpmhfgcbfjpfaaGreatDoor.hartLoads

/- Checks for HartLoads. No condition. -/
import Derived.Test.YtlpmhfgcbfjpfaaGreatDoorQHartLoads
namespace Go.Proofs.YtlpmhfgcbfjpfaaGreatDoor.hartLoads
open Go.Sx Go.ChangeShapes Go.WideShapes Go.ChangeAt Go.RowKit
set_option linter.unusedVariables false
set_option linter.unusedSimpArgs false
set_option maxRecDepth 1000000
theorem scF_3 : chkSk pcX (accF G af6.res) skF_3 MF_3 T4_3.pc = true := by kernel_rfl
theorem hF_3_0 : chkL pcX (accF G af6.res) (MF_3.go ([true])) (MF_3.pcGo ([true]) T4_3.pc) = true := by kernel_rfl
theorem hF_3_1 : chkL pcX (accF G af6.res) (MF_3.go ([false])) (MF_3.pcGo ([false]) T4_3.pc) = true := by kernel_rfl
theorem ckF_4 : chkL pcX (accF G af6.res) MF_4 T4_4.pc = true := by kernel_rfl
theorem scF_5 : chkSk pcX (accF G af6.res) skF_5 MF_5 T4_5.pc = true := by kernel_rfl
end Go.Proofs.YtlpmhfgcbfjpfaaGreatDoor.hartLoads

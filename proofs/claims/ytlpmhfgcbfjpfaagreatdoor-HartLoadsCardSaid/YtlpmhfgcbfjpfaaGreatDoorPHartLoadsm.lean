/- Checks for HartLoads. No condition. -/
import Derived.Test.YtlpmhfgcbfjpfaaGreatDoorQHartLoads
namespace Go.Proofs.YtlpmhfgcbfjpfaaGreatDoor.hartLoads
open Go.Sx Go.ChangeShapes Go.WideShapes Go.ChangeAt Go.RowKit
set_option linter.unusedVariables false
set_option linter.unusedSimpArgs false
set_option maxRecDepth 1000000
theorem hF_1_0 : chkL pcX (accF G af6.res) (MF_1.go ([true])) (MF_1.pcGo ([true]) T4_1.pc) = true := by kernel_rfl
theorem hF_1_1 : chkL pcX (accF G af6.res) (MF_1.go ([false])) (MF_1.pcGo ([false]) T4_1.pc) = true := by kernel_rfl
theorem scF_2 : chkSk pcX (accF G af6.res) skF_2 MF_2 T4_2.pc = true := by kernel_rfl
theorem hF_2_0 : chkL pcX (accF G af6.res) (MF_2.go ([true])) (MF_2.pcGo ([true]) T4_2.pc) = true := by kernel_rfl
theorem hF_2_1 : chkL pcX (accF G af6.res) (MF_2.go ([false])) (MF_2.pcGo ([false]) T4_2.pc) = true := by kernel_rfl
end Go.Proofs.YtlpmhfgcbfjpfaaGreatDoor.hartLoads

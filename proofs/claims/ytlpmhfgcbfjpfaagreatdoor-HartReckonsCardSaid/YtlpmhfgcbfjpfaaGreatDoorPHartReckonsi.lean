/- Checks for HartReckons. No condition. -/
import Derived.Test.YtlpmhfgcbfjpfaaGreatDoorQHartReckons
namespace Go.Proofs.YtlpmhfgcbfjpfaaGreatDoor.hartReckons
open Go.Sx Go.ChangeShapes Go.WideShapes Go.ChangeAt Go.RowKit
set_option linter.unusedVariables false
set_option linter.unusedSimpArgs false
set_option maxRecDepth 1000000
theorem scF_0 : chkSk pcX (accF G af4.res) skF_0 MF_0 T4_0.pc = true := by kernel_rfl
theorem hF_0_0 : chkL pcX (accF G af4.res) (MF_0.go ([true])) (MF_0.pcGo ([true]) T4_0.pc) = true := by kernel_rfl
theorem hF_0_1 : chkL pcX (accF G af4.res) (MF_0.go ([false, true])) (MF_0.pcGo ([false, true]) T4_0.pc) = true := by kernel_rfl
end Go.Proofs.YtlpmhfgcbfjpfaaGreatDoor.hartReckons

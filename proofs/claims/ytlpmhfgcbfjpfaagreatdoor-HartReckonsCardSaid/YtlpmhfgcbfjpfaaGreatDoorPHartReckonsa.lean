/- Checks for HartReckons. No condition. -/
import Derived.Test.YtlpmhfgcbfjpfaaGreatDoorQHartReckons
namespace Go.Proofs.YtlpmhfgcbfjpfaaGreatDoor.hartReckons
open Go.Sx Go.ChangeShapes Go.WideShapes Go.ChangeAt Go.RowKit
set_option linter.unusedVariables false
set_option linter.unusedSimpArgs false
set_option maxRecDepth 1000000
theorem ck0_0 : chkL pcX (accT G 2 64 af4.res Ts1) M0_0 T0_0.pc = true := by kernel_rfl
theorem sc1_0 : chkSk pcX (accT G 2 64 af4.res Ts2) sk1_0 M1_0 T1_0.pc = true := by kernel_rfl
theorem h1_0_0 : chkL pcX (accT G 2 64 af4.res Ts2) (M1_0.go ([true])) (M1_0.pcGo ([true]) T1_0.pc) = true := by kernel_rfl
end Go.Proofs.YtlpmhfgcbfjpfaaGreatDoor.hartReckons

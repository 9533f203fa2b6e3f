/- Checks for SeqPages. No condition. -/
import Derived.Test.YtlgfmmccnilkmaaGreatDoorQSeqPages
namespace Go.Proofs.YtlgfmmccnilkmaaGreatDoor.seqPages
open Go.Sx Go.ChangeShapes Go.WideShapes Go.ChangeAt Go.RowKit
set_option linter.unusedVariables false
set_option linter.unusedSimpArgs false
set_option maxRecDepth 1000000
theorem ck9_1 : chkL Out.pc (accO G 6 64 af4.res Ns9_1) M9_1 N9_1.T.pc = true := by kernel_rfl
theorem ck10_0 : chkL Out.pc (accO G 6 64 af4.res Ns10_0) M10_0 N10_0.T.pc = true := by kernel_rfl
theorem ck10_1 : chkL Out.pc (accO G 6 64 af4.res Ns10_1) M10_1 N10_1.T.pc = true := by kernel_rfl
theorem ck11_0 : chkL Out.pc (accO G 6 64 af4.res Ns11_0) M11_0 N11_0.T.pc = true := by kernel_rfl
theorem ck11_1 : chkL Out.pc (accO G 6 64 af4.res Ns11_1) M11_1 N11_1.T.pc = true := by kernel_rfl
theorem ck12_0 : chkL Out.pc (accO G 6 64 af4.res Ns12_0) M12_0 N12_0.T.pc = true := by kernel_rfl
theorem ck12_1 : chkL Out.pc (accO G 6 64 af4.res Ns12_1) M12_1 N12_1.T.pc = true := by kernel_rfl
theorem ck13_0 : chkL Out.pc (accO G 6 64 af4.res Ns13_0) M13_0 N13_0.T.pc = true := by kernel_rfl
theorem ck13_1 : chkL Out.pc (accO G 6 64 af4.res Ns13_1) M13_1 N13_1.T.pc = true := by kernel_rfl
theorem ck14_0 : chkL Out.pc (accO G 6 64 af4.res Ns14_0) M14_0 N14_0.T.pc = true := by kernel_rfl
theorem ck14_1 : chkL Out.pc (accO G 6 64 af4.res Ns14_1) M14_1 N14_1.T.pc = true := by kernel_rfl
theorem ck15_0 : chkL Out.pc (accO G 6 64 af4.res Ns15_0) M15_0 N15_0.T.pc = true := by kernel_rfl
theorem ck15_1 : chkL Out.pc (accO G 6 64 af4.res Ns15_1) M15_1 N15_1.T.pc = true := by kernel_rfl
theorem ck16_0 : chkL Out.pc (accO G 6 64 af4.res Ns16_0) M16_0 N16_0.T.pc = true := by kernel_rfl
theorem ck16_1 : chkL Out.pc (accO G 6 64 af4.res Ns16_1) M16_1 N16_1.T.pc = true := by kernel_rfl
theorem ck17_0 : chkL Out.pc (accO G 6 64 af4.res Ns17_0) M17_0 N17_0.T.pc = true := by kernel_rfl
theorem ck17_1 : chkL Out.pc (accO G 6 64 af4.res Ns17_1) M17_1 N17_1.T.pc = true := by kernel_rfl
end Go.Proofs.YtlgfmmccnilkmaaGreatDoor.seqPages

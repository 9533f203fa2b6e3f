/- Checks for SeqSums. No condition. -/
import Derived.Test.YtlgfmmccnilkmaaGreatDoorQSeqSums
namespace Go.Proofs.YtlgfmmccnilkmaaGreatDoor.seqSums
open Go.Sx Go.ChangeShapes Go.WideShapes Go.ChangeAt Go.RowKit
set_option linter.unusedVariables false
set_option linter.unusedSimpArgs false
set_option maxRecDepth 1000000
theorem ck10_7 : chkL Out.pc (accO G 6 64 af3.res Ns10_7) M10_7 N10_7.T.pc = true := by kernel_rfl
theorem ck10_8 : chkL Out.pc (accO G 6 64 af3.res Ns10_8) M10_8 N10_8.T.pc = true := by kernel_rfl
theorem ck10_9 : chkL Out.pc (accO G 6 64 af3.res Ns10_9) M10_9 N10_9.T.pc = true := by kernel_rfl
theorem ck11_0 : chkL Out.pc (accO G 6 64 af3.res Ns11_0) M11_0 N11_0.T.pc = true := by kernel_rfl
theorem ck11_1 : chkL Out.pc (accO G 6 64 af3.res Ns11_1) M11_1 N11_1.T.pc = true := by kernel_rfl
theorem ck11_2 : chkL Out.pc (accO G 6 64 af3.res Ns11_2) M11_2 N11_2.T.pc = true := by kernel_rfl
theorem ck11_3 : chkL Out.pc (accO G 6 64 af3.res Ns11_3) M11_3 N11_3.T.pc = true := by kernel_rfl
theorem ck11_4 : chkL Out.pc (accO G 6 64 af3.res Ns11_4) M11_4 N11_4.T.pc = true := by kernel_rfl
theorem ck11_5 : chkL Out.pc (accO G 6 64 af3.res Ns11_5) M11_5 N11_5.T.pc = true := by kernel_rfl
theorem ck11_6 : chkL Out.pc (accO G 6 64 af3.res Ns11_6) M11_6 N11_6.T.pc = true := by kernel_rfl
theorem ck12_0 : chkL Out.pc (accO G 6 64 af3.res Ns12_0) M12_0 N12_0.T.pc = true := by kernel_rfl
theorem ck12_1 : chkL Out.pc (accO G 6 64 af3.res Ns12_1) M12_1 N12_1.T.pc = true := by kernel_rfl
end Go.Proofs.YtlgfmmccnilkmaaGreatDoor.seqSums

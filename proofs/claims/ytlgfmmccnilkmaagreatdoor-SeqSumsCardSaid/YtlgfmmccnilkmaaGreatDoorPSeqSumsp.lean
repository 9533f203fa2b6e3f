/- Checks for SeqSums. No condition. -/
import Derived.Test.YtlgfmmccnilkmaaGreatDoorQSeqSums
namespace Go.Proofs.YtlgfmmccnilkmaaGreatDoor.seqSums
open Go.Sx Go.ChangeShapes Go.WideShapes Go.ChangeAt Go.RowKit
set_option linter.unusedVariables false
set_option linter.unusedSimpArgs false
set_option maxRecDepth 1000000
theorem ck9_8 : chkL Out.pc (accO G 6 64 af3.res Ns9_8) M9_8 N9_8.T.pc = true := by kernel_rfl
theorem ck9_9 : chkL Out.pc (accO G 6 64 af3.res Ns9_9) M9_9 N9_9.T.pc = true := by kernel_rfl
theorem ck9_10 : chkL Out.pc (accO G 6 64 af3.res Ns9_10) M9_10 N9_10.T.pc = true := by kernel_rfl
theorem ck9_11 : chkL Out.pc (accO G 6 64 af3.res Ns9_11) M9_11 N9_11.T.pc = true := by kernel_rfl
theorem ck9_12 : chkL Out.pc (accO G 6 64 af3.res Ns9_12) M9_12 N9_12.T.pc = true := by kernel_rfl
theorem ck10_0 : chkL Out.pc (accO G 6 64 af3.res Ns10_0) M10_0 N10_0.T.pc = true := by kernel_rfl
theorem ck10_1 : chkL Out.pc (accO G 6 64 af3.res Ns10_1) M10_1 N10_1.T.pc = true := by kernel_rfl
theorem ck10_2 : chkL Out.pc (accO G 6 64 af3.res Ns10_2) M10_2 N10_2.T.pc = true := by kernel_rfl
theorem ck10_3 : chkL Out.pc (accO G 6 64 af3.res Ns10_3) M10_3 N10_3.T.pc = true := by kernel_rfl
theorem ck10_4 : chkL Out.pc (accO G 6 64 af3.res Ns10_4) M10_4 N10_4.T.pc = true := by kernel_rfl
theorem ck10_5 : chkL Out.pc (accO G 6 64 af3.res Ns10_5) M10_5 N10_5.T.pc = true := by kernel_rfl
theorem ck10_6 : chkL Out.pc (accO G 6 64 af3.res Ns10_6) M10_6 N10_6.T.pc = true := by kernel_rfl
end Go.Proofs.YtlgfmmccnilkmaaGreatDoor.seqSums

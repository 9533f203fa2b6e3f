/- Checks for SeqSums. No condition. -/
import Derived.Test.YtlgfmmccnilkmaaGreatDoorQSeqSums
namespace Go.Proofs.YtlgfmmccnilkmaaGreatDoor.seqSums
open Go.Sx Go.ChangeShapes Go.WideShapes Go.ChangeAt Go.RowKit
set_option linter.unusedVariables false
set_option linter.unusedSimpArgs false
set_option maxRecDepth 1000000
theorem ck8_0 : chkL Out.pc (accO G 6 64 af3.res Ns8_0) M8_0 N8_0.T.pc = true := by kernel_rfl
theorem ck8_1 : chkL Out.pc (accO G 6 64 af3.res Ns8_1) M8_1 N8_1.T.pc = true := by kernel_rfl
theorem ck8_2 : chkL Out.pc (accO G 6 64 af3.res Ns8_2) M8_2 N8_2.T.pc = true := by kernel_rfl
theorem ck8_3 : chkL Out.pc (accO G 6 64 af3.res Ns8_3) M8_3 N8_3.T.pc = true := by kernel_rfl
theorem ck8_4 : chkL Out.pc (accO G 6 64 af3.res Ns8_4) M8_4 N8_4.T.pc = true := by kernel_rfl
theorem ck8_5 : chkL Out.pc (accO G 6 64 af3.res Ns8_5) M8_5 N8_5.T.pc = true := by kernel_rfl
theorem ck8_6 : chkL Out.pc (accO G 6 64 af3.res Ns8_6) M8_6 N8_6.T.pc = true := by kernel_rfl
theorem ck8_7 : chkL Out.pc (accO G 6 64 af3.res Ns8_7) M8_7 N8_7.T.pc = true := by kernel_rfl
theorem ck8_8 : chkL Out.pc (accO G 6 64 af3.res Ns8_8) M8_8 N8_8.T.pc = true := by kernel_rfl
theorem ck8_9 : chkL Out.pc (accO G 6 64 af3.res Ns8_9) M8_9 N8_9.T.pc = true := by kernel_rfl
theorem ck8_10 : chkL Out.pc (accO G 6 64 af3.res Ns8_10) M8_10 N8_10.T.pc = true := by kernel_rfl
theorem ck8_11 : chkL Out.pc (accO G 6 64 af3.res Ns8_11) M8_11 N8_11.T.pc = true := by kernel_rfl
end Go.Proofs.YtlgfmmccnilkmaaGreatDoor.seqSums

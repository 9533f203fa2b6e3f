/- Checks for SeqSums. No condition. -/
import Derived.Test.YtlgfmmccnilkmaaGreatDoorQSeqSums
namespace Go.Proofs.YtlgfmmccnilkmaaGreatDoor.seqSums
open Go.Sx Go.ChangeShapes Go.WideShapes Go.ChangeAt Go.RowKit
set_option linter.unusedVariables false
set_option linter.unusedSimpArgs false
set_option maxRecDepth 1000000
theorem ck8_12 : chkL Out.pc (accO G 6 64 af3.res Ns8_12) M8_12 N8_12.T.pc = true := by kernel_rfl
theorem ck8_13 : chkL Out.pc (accO G 6 64 af3.res Ns8_13) M8_13 N8_13.T.pc = true := by kernel_rfl
theorem ck8_14 : chkL Out.pc (accO G 6 64 af3.res Ns8_14) M8_14 N8_14.T.pc = true := by kernel_rfl
theorem ck8_15 : chkL Out.pc (accO G 6 64 af3.res Ns8_15) M8_15 N8_15.T.pc = true := by kernel_rfl
theorem ck9_0 : chkL Out.pc (accO G 6 64 af3.res Ns9_0) M9_0 N9_0.T.pc = true := by kernel_rfl
theorem ck9_1 : chkL Out.pc (accO G 6 64 af3.res Ns9_1) M9_1 N9_1.T.pc = true := by kernel_rfl
theorem ck9_2 : chkL Out.pc (accO G 6 64 af3.res Ns9_2) M9_2 N9_2.T.pc = true := by kernel_rfl
theorem ck9_3 : chkL Out.pc (accO G 6 64 af3.res Ns9_3) M9_3 N9_3.T.pc = true := by kernel_rfl
theorem ck9_4 : chkL Out.pc (accO G 6 64 af3.res Ns9_4) M9_4 N9_4.T.pc = true := by kernel_rfl
theorem ck9_5 : chkL Out.pc (accO G 6 64 af3.res Ns9_5) M9_5 N9_5.T.pc = true := by kernel_rfl
theorem ck9_6 : chkL Out.pc (accO G 6 64 af3.res Ns9_6) M9_6 N9_6.T.pc = true := by kernel_rfl
theorem ck9_7 : chkL Out.pc (accO G 6 64 af3.res Ns9_7) M9_7 N9_7.T.pc = true := by kernel_rfl
end Go.Proofs.YtlgfmmccnilkmaaGreatDoor.seqSums

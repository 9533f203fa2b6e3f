/- Checks for SeqSums. No condition. -/
import Derived.Test.YtlgfmmccnilkmaaGreatDoorQSeqSums
namespace Go.Proofs.YtlgfmmccnilkmaaGreatDoor.seqSums
open Go.Sx Go.ChangeShapes Go.WideShapes Go.ChangeAt Go.RowKit
set_option linter.unusedVariables false
set_option linter.unusedSimpArgs false
set_option maxRecDepth 1000000
theorem ck5_6 : chkL Out.pc (accO G 6 64 af3.res Ns5_6) M5_6 N5_6.T.pc = true := by kernel_rfl
theorem ck5_7 : chkL Out.pc (accO G 6 64 af3.res Ns5_7) M5_7 N5_7.T.pc = true := by kernel_rfl
theorem ck5_8 : chkL Out.pc (accO G 6 64 af3.res Ns5_8) M5_8 N5_8.T.pc = true := by kernel_rfl
theorem ck5_9 : chkL Out.pc (accO G 6 64 af3.res Ns5_9) M5_9 N5_9.T.pc = true := by kernel_rfl
theorem ck5_10 : chkL Out.pc (accO G 6 64 af3.res Ns5_10) M5_10 N5_10.T.pc = true := by kernel_rfl
theorem ck5_11 : chkL Out.pc (accO G 6 64 af3.res Ns5_11) M5_11 N5_11.T.pc = true := by kernel_rfl
theorem ck5_12 : chkL Out.pc (accO G 6 64 af3.res Ns5_12) M5_12 N5_12.T.pc = true := by kernel_rfl
theorem ck5_13 : chkL Out.pc (accO G 6 64 af3.res Ns5_13) M5_13 N5_13.T.pc = true := by kernel_rfl
theorem ck5_14 : chkL Out.pc (accO G 6 64 af3.res Ns5_14) M5_14 N5_14.T.pc = true := by kernel_rfl
theorem ck5_15 : chkL Out.pc (accO G 6 64 af3.res Ns5_15) M5_15 N5_15.T.pc = true := by kernel_rfl
theorem ck5_16 : chkL Out.pc (accO G 6 64 af3.res Ns5_16) M5_16 N5_16.T.pc = true := by kernel_rfl
theorem ck5_17 : chkL Out.pc (accO G 6 64 af3.res Ns5_17) M5_17 N5_17.T.pc = true := by kernel_rfl
end Go.Proofs.YtlgfmmccnilkmaaGreatDoor.seqSums

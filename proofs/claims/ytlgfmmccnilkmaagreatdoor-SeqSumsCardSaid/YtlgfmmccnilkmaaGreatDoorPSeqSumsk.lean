/- Checks for SeqSums. No condition. -/
import Derived.Test.YtlgfmmccnilkmaaGreatDoorQSeqSums
namespace Go.Proofs.YtlgfmmccnilkmaaGreatDoor.seqSums
open Go.Sx Go.ChangeShapes Go.WideShapes Go.ChangeAt Go.RowKit
set_option linter.unusedVariables false
set_option linter.unusedSimpArgs false
set_option maxRecDepth 1000000
theorem ck6_5 : chkL Out.pc (accO G 6 64 af3.res Ns6_5) M6_5 N6_5.T.pc = true := by kernel_rfl
theorem ck6_6 : chkL Out.pc (accO G 6 64 af3.res Ns6_6) M6_6 N6_6.T.pc = true := by kernel_rfl
theorem ck6_7 : chkL Out.pc (accO G 6 64 af3.res Ns6_7) M6_7 N6_7.T.pc = true := by kernel_rfl
theorem ck6_8 : chkL Out.pc (accO G 6 64 af3.res Ns6_8) M6_8 N6_8.T.pc = true := by kernel_rfl
theorem ck6_9 : chkL Out.pc (accO G 6 64 af3.res Ns6_9) M6_9 N6_9.T.pc = true := by kernel_rfl
theorem ck6_10 : chkL Out.pc (accO G 6 64 af3.res Ns6_10) M6_10 N6_10.T.pc = true := by kernel_rfl
theorem ck6_11 : chkL Out.pc (accO G 6 64 af3.res Ns6_11) M6_11 N6_11.T.pc = true := by kernel_rfl
theorem ck6_12 : chkL Out.pc (accO G 6 64 af3.res Ns6_12) M6_12 N6_12.T.pc = true := by kernel_rfl
theorem ck6_13 : chkL Out.pc (accO G 6 64 af3.res Ns6_13) M6_13 N6_13.T.pc = true := by kernel_rfl
theorem ck6_14 : chkL Out.pc (accO G 6 64 af3.res Ns6_14) M6_14 N6_14.T.pc = true := by kernel_rfl
theorem ck6_15 : chkL Out.pc (accO G 6 64 af3.res Ns6_15) M6_15 N6_15.T.pc = true := by kernel_rfl
theorem ck6_16 : chkL Out.pc (accO G 6 64 af3.res Ns6_16) M6_16 N6_16.T.pc = true := by kernel_rfl
end Go.Proofs.YtlgfmmccnilkmaaGreatDoor.seqSums

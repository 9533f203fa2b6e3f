/- Checks for SeqSums. No condition. -/
import Derived.Test.YtlgfmmccnilkmaaGreatDoorQSeqSums
namespace Go.Proofs.YtlgfmmccnilkmaaGreatDoor.seqSums
open Go.Sx Go.ChangeShapes Go.WideShapes Go.ChangeAt Go.RowKit
set_option linter.unusedVariables false
set_option linter.unusedSimpArgs false
set_option maxRecDepth 1000000
theorem ck7_7 : chkL Out.pc (accO G 6 64 af3.res Ns7_7) M7_7 N7_7.T.pc = true := by kernel_rfl
theorem ck7_8 : chkL Out.pc (accO G 6 64 af3.res Ns7_8) M7_8 N7_8.T.pc = true := by kernel_rfl
theorem ck7_9 : chkL Out.pc (accO G 6 64 af3.res Ns7_9) M7_9 N7_9.T.pc = true := by kernel_rfl
theorem ck7_10 : chkL Out.pc (accO G 6 64 af3.res Ns7_10) M7_10 N7_10.T.pc = true := by kernel_rfl
theorem ck7_11 : chkL Out.pc (accO G 6 64 af3.res Ns7_11) M7_11 N7_11.T.pc = true := by kernel_rfl
theorem ck7_12 : chkL Out.pc (accO G 6 64 af3.res Ns7_12) M7_12 N7_12.T.pc = true := by kernel_rfl
theorem ck7_13 : chkL Out.pc (accO G 6 64 af3.res Ns7_13) M7_13 N7_13.T.pc = true := by kernel_rfl
theorem ck7_14 : chkL Out.pc (accO G 6 64 af3.res Ns7_14) M7_14 N7_14.T.pc = true := by kernel_rfl
theorem ck7_15 : chkL Out.pc (accO G 6 64 af3.res Ns7_15) M7_15 N7_15.T.pc = true := by kernel_rfl
theorem ck7_16 : chkL Out.pc (accO G 6 64 af3.res Ns7_16) M7_16 N7_16.T.pc = true := by kernel_rfl
theorem ck7_17 : chkL Out.pc (accO G 6 64 af3.res Ns7_17) M7_17 N7_17.T.pc = true := by kernel_rfl
theorem ck7_18 : chkL Out.pc (accO G 6 64 af3.res Ns7_18) M7_18 N7_18.T.pc = true := by kernel_rfl
end Go.Proofs.YtlgfmmccnilkmaaGreatDoor.seqSums

/- Checks for SeqSums. No condition. -/
import Derived.Test.YtlgfmmccnilkmaaGreatDoorQSeqSums
namespace Go.Proofs.YtlgfmmccnilkmaaGreatDoor.seqSums
open Go.Sx Go.ChangeShapes Go.WideShapes Go.ChangeAt Go.RowKit
set_option linter.unusedVariables false
set_option linter.unusedSimpArgs false
set_option maxRecDepth 1000000
theorem ck6_17 : chkL Out.pc (accO G 6 64 af3.res Ns6_17) M6_17 N6_17.T.pc = true := by kernel_rfl
theorem ck6_18 : chkL Out.pc (accO G 6 64 af3.res Ns6_18) M6_18 N6_18.T.pc = true := by kernel_rfl
theorem ck6_19 : chkL Out.pc (accO G 6 64 af3.res Ns6_19) M6_19 N6_19.T.pc = true := by kernel_rfl
theorem ck6_20 : chkL Out.pc (accO G 6 64 af3.res Ns6_20) M6_20 N6_20.T.pc = true := by kernel_rfl
theorem ck6_21 : chkL Out.pc (accO G 6 64 af3.res Ns6_21) M6_21 N6_21.T.pc = true := by kernel_rfl
theorem ck7_0 : chkL Out.pc (accO G 6 64 af3.res Ns7_0) M7_0 N7_0.T.pc = true := by kernel_rfl
theorem ck7_1 : chkL Out.pc (accO G 6 64 af3.res Ns7_1) M7_1 N7_1.T.pc = true := by kernel_rfl
theorem ck7_2 : chkL Out.pc (accO G 6 64 af3.res Ns7_2) M7_2 N7_2.T.pc = true := by kernel_rfl
theorem ck7_3 : chkL Out.pc (accO G 6 64 af3.res Ns7_3) M7_3 N7_3.T.pc = true := by kernel_rfl
theorem ck7_4 : chkL Out.pc (accO G 6 64 af3.res Ns7_4) M7_4 N7_4.T.pc = true := by kernel_rfl
theorem ck7_5 : chkL Out.pc (accO G 6 64 af3.res Ns7_5) M7_5 N7_5.T.pc = true := by kernel_rfl
theorem ck7_6 : chkL Out.pc (accO G 6 64 af3.res Ns7_6) M7_6 N7_6.T.pc = true := by kernel_rfl
end Go.Proofs.YtlgfmmccnilkmaaGreatDoor.seqSums

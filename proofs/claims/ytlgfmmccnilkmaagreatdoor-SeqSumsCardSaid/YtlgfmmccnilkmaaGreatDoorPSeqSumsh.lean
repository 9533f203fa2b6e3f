/- Checks for SeqSums. No condition. -/
import Derived.Test.YtlgfmmccnilkmaaGreatDoorQSeqSums
namespace Go.Proofs.YtlgfmmccnilkmaaGreatDoor.seqSums
open Go.Sx Go.ChangeShapes Go.WideShapes Go.ChangeAt Go.RowKit
set_option linter.unusedVariables false
set_option linter.unusedSimpArgs false
set_option maxRecDepth 1000000
theorem ck4_22 : chkL Out.pc (accO G 6 64 af3.res Ns4_22) M4_22 N4_22.T.pc = true := by kernel_rfl
theorem ck4_23 : chkL Out.pc (accO G 6 64 af3.res Ns4_23) M4_23 N4_23.T.pc = true := by kernel_rfl
theorem ck4_24 : chkL Out.pc (accO G 6 64 af3.res Ns4_24) M4_24 N4_24.T.pc = true := by kernel_rfl
theorem ck4_25 : chkL Out.pc (accO G 6 64 af3.res Ns4_25) M4_25 N4_25.T.pc = true := by kernel_rfl
theorem ck4_26 : chkL Out.pc (accO G 6 64 af3.res Ns4_26) M4_26 N4_26.T.pc = true := by kernel_rfl
theorem ck4_27 : chkL Out.pc (accO G 6 64 af3.res Ns4_27) M4_27 N4_27.T.pc = true := by kernel_rfl
theorem ck5_0 : chkL Out.pc (accO G 6 64 af3.res Ns5_0) M5_0 N5_0.T.pc = true := by kernel_rfl
theorem ck5_1 : chkL Out.pc (accO G 6 64 af3.res Ns5_1) M5_1 N5_1.T.pc = true := by kernel_rfl
theorem ck5_2 : chkL Out.pc (accO G 6 64 af3.res Ns5_2) M5_2 N5_2.T.pc = true := by kernel_rfl
theorem ck5_3 : chkL Out.pc (accO G 6 64 af3.res Ns5_3) M5_3 N5_3.T.pc = true := by kernel_rfl
theorem ck5_4 : chkL Out.pc (accO G 6 64 af3.res Ns5_4) M5_4 N5_4.T.pc = true := by kernel_rfl
theorem ck5_5 : chkL Out.pc (accO G 6 64 af3.res Ns5_5) M5_5 N5_5.T.pc = true := by kernel_rfl
end Go.Proofs.YtlgfmmccnilkmaaGreatDoor.seqSums

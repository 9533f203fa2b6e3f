/- Checks for SeqSums. No condition. -/
import Derived.Test.YtlgfmmccnilkmaaGreatDoorQSeqSums
namespace Go.Proofs.YtlgfmmccnilkmaaGreatDoor.seqSums
open Go.Sx Go.ChangeShapes Go.WideShapes Go.ChangeAt Go.RowKit
set_option linter.unusedVariables false
set_option linter.unusedSimpArgs false
set_option maxRecDepth 1000000
theorem ck3_28 : chkL Out.pc (accO G 6 64 af3.res Ns3_28) M3_28 N3_28.T.pc = true := by kernel_rfl
theorem ck3_29 : chkL Out.pc (accO G 6 64 af3.res Ns3_29) M3_29 N3_29.T.pc = true := by kernel_rfl
theorem ck4_0 : chkL Out.pc (accO G 6 64 af3.res Ns4_0) M4_0 N4_0.T.pc = true := by kernel_rfl
theorem ck4_1 : chkL Out.pc (accO G 6 64 af3.res Ns4_1) M4_1 N4_1.T.pc = true := by kernel_rfl
theorem ck4_2 : chkL Out.pc (accO G 6 64 af3.res Ns4_2) M4_2 N4_2.T.pc = true := by kernel_rfl
theorem ck4_3 : chkL Out.pc (accO G 6 64 af3.res Ns4_3) M4_3 N4_3.T.pc = true := by kernel_rfl
theorem ck4_4 : chkL Out.pc (accO G 6 64 af3.res Ns4_4) M4_4 N4_4.T.pc = true := by kernel_rfl
theorem ck4_5 : chkL Out.pc (accO G 6 64 af3.res Ns4_5) M4_5 N4_5.T.pc = true := by kernel_rfl
theorem ck4_6 : chkL Out.pc (accO G 6 64 af3.res Ns4_6) M4_6 N4_6.T.pc = true := by kernel_rfl
theorem ck4_7 : chkL Out.pc (accO G 6 64 af3.res Ns4_7) M4_7 N4_7.T.pc = true := by kernel_rfl
theorem ck4_8 : chkL Out.pc (accO G 6 64 af3.res Ns4_8) M4_8 N4_8.T.pc = true := by kernel_rfl
theorem ck4_9 : chkL Out.pc (accO G 6 64 af3.res Ns4_9) M4_9 N4_9.T.pc = true := by kernel_rfl
end Go.Proofs.YtlgfmmccnilkmaaGreatDoor.seqSums

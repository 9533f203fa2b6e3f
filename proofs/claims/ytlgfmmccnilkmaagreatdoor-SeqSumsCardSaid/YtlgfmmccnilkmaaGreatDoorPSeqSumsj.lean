/- Checks for SeqSums. No condition. -/
import Derived.Test.YtlgfmmccnilkmaaGreatDoorQSeqSums
namespace Go.Proofs.YtlgfmmccnilkmaaGreatDoor.seqSums
open Go.Sx Go.ChangeShapes Go.WideShapes Go.ChangeAt Go.RowKit
set_option linter.unusedVariables false
set_option linter.unusedSimpArgs false
set_option maxRecDepth 1000000
theorem ck5_18 : chkL Out.pc (accO G 6 64 af3.res Ns5_18) M5_18 N5_18.T.pc = true := by kernel_rfl
theorem ck5_19 : chkL Out.pc (accO G 6 64 af3.res Ns5_19) M5_19 N5_19.T.pc = true := by kernel_rfl
theorem ck5_20 : chkL Out.pc (accO G 6 64 af3.res Ns5_20) M5_20 N5_20.T.pc = true := by kernel_rfl
theorem ck5_21 : chkL Out.pc (accO G 6 64 af3.res Ns5_21) M5_21 N5_21.T.pc = true := by kernel_rfl
theorem ck5_22 : chkL Out.pc (accO G 6 64 af3.res Ns5_22) M5_22 N5_22.T.pc = true := by kernel_rfl
theorem ck5_23 : chkL Out.pc (accO G 6 64 af3.res Ns5_23) M5_23 N5_23.T.pc = true := by kernel_rfl
theorem ck5_24 : chkL Out.pc (accO G 6 64 af3.res Ns5_24) M5_24 N5_24.T.pc = true := by kernel_rfl
theorem ck6_0 : chkL Out.pc (accO G 6 64 af3.res Ns6_0) M6_0 N6_0.T.pc = true := by kernel_rfl
theorem ck6_1 : chkL Out.pc (accO G 6 64 af3.res Ns6_1) M6_1 N6_1.T.pc = true := by kernel_rfl
theorem ck6_2 : chkL Out.pc (accO G 6 64 af3.res Ns6_2) M6_2 N6_2.T.pc = true := by kernel_rfl
theorem ck6_3 : chkL Out.pc (accO G 6 64 af3.res Ns6_3) M6_3 N6_3.T.pc = true := by kernel_rfl
theorem ck6_4 : chkL Out.pc (accO G 6 64 af3.res Ns6_4) M6_4 N6_4.T.pc = true := by kernel_rfl
end Go.Proofs.YtlgfmmccnilkmaaGreatDoor.seqSums

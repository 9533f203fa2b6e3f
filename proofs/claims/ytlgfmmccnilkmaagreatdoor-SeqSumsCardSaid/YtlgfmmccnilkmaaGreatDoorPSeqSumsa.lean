/- Checks for SeqSums. No condition. -/
import Derived.Test.YtlgfmmccnilkmaaGreatDoorQSeqSums
namespace Go.Proofs.YtlgfmmccnilkmaaGreatDoor.seqSums
open Go.Sx Go.ChangeShapes Go.WideShapes Go.ChangeAt Go.RowKit
set_option linter.unusedVariables false
set_option linter.unusedSimpArgs false
set_option maxRecDepth 1000000
theorem ck0_0 : chkL Out.pc (accO G 6 64 af3.res Ns0_0) M0_0 T0_0.pc = true := by kernel_rfl
theorem ck1_0 : chkL Out.pc (accO G 6 64 af3.res Ns1_0) M1_0 N1_0.T.pc = true := by kernel_rfl
theorem ck2_0 : chkL Out.pc (accO G 6 64 af3.res Ns2_0) M2_0 N2_0.T.pc = true := by kernel_rfl
theorem ck2_1 : chkL Out.pc (accO G 6 64 af3.res Ns2_1) M2_1 N2_1.T.pc = true := by kernel_rfl
theorem ck2_2 : chkL Out.pc (accO G 6 64 af3.res Ns2_2) M2_2 N2_2.T.pc = true := by kernel_rfl
theorem ck2_3 : chkL Out.pc (accO G 6 64 af3.res Ns2_3) M2_3 N2_3.T.pc = true := by kernel_rfl
theorem ck2_4 : chkL Out.pc (accO G 6 64 af3.res Ns2_4) M2_4 N2_4.T.pc = true := by kernel_rfl
theorem ck2_5 : chkL Out.pc (accO G 6 64 af3.res Ns2_5) M2_5 N2_5.T.pc = true := by kernel_rfl
theorem ck2_6 : chkL Out.pc (accO G 6 64 af3.res Ns2_6) M2_6 N2_6.T.pc = true := by kernel_rfl
theorem ck2_7 : chkL Out.pc (accO G 6 64 af3.res Ns2_7) M2_7 N2_7.T.pc = true := by kernel_rfl
theorem ck2_8 : chkL Out.pc (accO G 6 64 af3.res Ns2_8) M2_8 N2_8.T.pc = true := by kernel_rfl
theorem ck2_9 : chkL Out.pc (accO G 6 64 af3.res Ns2_9) M2_9 N2_9.T.pc = true := by kernel_rfl
end Go.Proofs.YtlgfmmccnilkmaaGreatDoor.seqSums

/- Checks for SeqSums. No condition. -/
import Derived.Test.YtlgfmmccnilkmaaGreatDoorQSeqSums
namespace Go.Proofs.YtlgfmmccnilkmaaGreatDoor.seqSums
open Go.Sx Go.ChangeShapes Go.WideShapes Go.ChangeAt Go.RowKit
set_option linter.unusedVariables false
set_option linter.unusedSimpArgs false
set_option maxRecDepth 1000000
theorem ck2_22 : chkL Out.pc (accO G 6 64 af3.res Ns2_22) M2_22 N2_22.T.pc = true := by kernel_rfl
theorem ck2_23 : chkL Out.pc (accO G 6 64 af3.res Ns2_23) M2_23 N2_23.T.pc = true := by kernel_rfl
theorem ck2_24 : chkL Out.pc (accO G 6 64 af3.res Ns2_24) M2_24 N2_24.T.pc = true := by kernel_rfl
theorem ck2_25 : chkL Out.pc (accO G 6 64 af3.res Ns2_25) M2_25 N2_25.T.pc = true := by kernel_rfl
theorem ck2_26 : chkL Out.pc (accO G 6 64 af3.res Ns2_26) M2_26 N2_26.T.pc = true := by kernel_rfl
theorem ck2_27 : chkL Out.pc (accO G 6 64 af3.res Ns2_27) M2_27 N2_27.T.pc = true := by kernel_rfl
theorem ck2_28 : chkL Out.pc (accO G 6 64 af3.res Ns2_28) M2_28 N2_28.T.pc = true := by kernel_rfl
theorem ck2_29 : chkL Out.pc (accO G 6 64 af3.res Ns2_29) M2_29 N2_29.T.pc = true := by kernel_rfl
theorem ck3_0 : chkL Out.pc (accO G 6 64 af3.res Ns3_0) M3_0 N3_0.T.pc = true := by kernel_rfl
theorem ck3_1 : chkL Out.pc (accO G 6 64 af3.res Ns3_1) M3_1 N3_1.T.pc = true := by kernel_rfl
theorem ck3_2 : chkL Out.pc (accO G 6 64 af3.res Ns3_2) M3_2 N3_2.T.pc = true := by kernel_rfl
theorem ck3_3 : chkL Out.pc (accO G 6 64 af3.res Ns3_3) M3_3 N3_3.T.pc = true := by kernel_rfl
end Go.Proofs.YtlgfmmccnilkmaaGreatDoor.seqSums

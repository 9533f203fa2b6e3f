/- Checks for SeqPages. No condition. -/
import Derived.Test.YtlgfmmccnilkmaaGreatDoorQSeqPages
namespace Go.Proofs.YtlgfmmccnilkmaaGreatDoor.seqPages
open Go.Sx Go.ChangeShapes Go.WideShapes Go.ChangeAt Go.RowKit
set_option linter.unusedVariables false
set_option linter.unusedSimpArgs false
set_option maxRecDepth 1000000
theorem ck0_0 : chkL Out.pc (accO G 6 64 af4.res Ns0_0) M0_0 T0_0.pc = true := by kernel_rfl
theorem ck1_0 : chkL Out.pc (accO G 6 64 af4.res Ns1_0) M1_0 N1_0.T.pc = true := by kernel_rfl
theorem ck2_0 : chkL Out.pc (accO G 6 64 af4.res Ns2_0) M2_0 N2_0.T.pc = true := by kernel_rfl
theorem ck2_1 : chkL Out.pc (accO G 6 64 af4.res Ns2_1) M2_1 N2_1.T.pc = true := by kernel_rfl
theorem ck3_0 : chkL Out.pc (accO G 6 64 af4.res Ns3_0) M3_0 N3_0.T.pc = true := by kernel_rfl
theorem ck3_1 : chkL Out.pc (accO G 6 64 af4.res Ns3_1) M3_1 N3_1.T.pc = true := by kernel_rfl
theorem ck4_0 : chkL Out.pc (accO G 6 64 af4.res Ns4_0) M4_0 N4_0.T.pc = true := by kernel_rfl
theorem ck4_1 : chkL Out.pc (accO G 6 64 af4.res Ns4_1) M4_1 N4_1.T.pc = true := by kernel_rfl
theorem ck5_0 : chkL Out.pc (accO G 6 64 af4.res Ns5_0) M5_0 N5_0.T.pc = true := by kernel_rfl
theorem ck5_1 : chkL Out.pc (accO G 6 64 af4.res Ns5_1) M5_1 N5_1.T.pc = true := by kernel_rfl
theorem ck6_0 : chkL Out.pc (accO G 6 64 af4.res Ns6_0) M6_0 N6_0.T.pc = true := by kernel_rfl
theorem ck6_1 : chkL Out.pc (accO G 6 64 af4.res Ns6_1) M6_1 N6_1.T.pc = true := by kernel_rfl
theorem ck7_0 : chkL Out.pc (accO G 6 64 af4.res Ns7_0) M7_0 N7_0.T.pc = true := by kernel_rfl
theorem ck7_1 : chkL Out.pc (accO G 6 64 af4.res Ns7_1) M7_1 N7_1.T.pc = true := by kernel_rfl
theorem ck8_0 : chkL Out.pc (accO G 6 64 af4.res Ns8_0) M8_0 N8_0.T.pc = true := by kernel_rfl
theorem ck8_1 : chkL Out.pc (accO G 6 64 af4.res Ns8_1) M8_1 N8_1.T.pc = true := by kernel_rfl
theorem ck9_0 : chkL Out.pc (accO G 6 64 af4.res Ns9_0) M9_0 N9_0.T.pc = true := by kernel_rfl
end Go.Proofs.YtlgfmmccnilkmaaGreatDoor.seqPages

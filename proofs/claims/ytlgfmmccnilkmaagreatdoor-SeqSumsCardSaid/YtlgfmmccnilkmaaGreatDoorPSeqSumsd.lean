/- Checks for SeqSums. No condition. -/
import Derived.Test.YtlgfmmccnilkmaaGreatDoorQSeqSums
namespace Go.Proofs.YtlgfmmccnilkmaaGreatDoor.seqSums
open Go.Sx Go.ChangeShapes Go.WideShapes Go.ChangeAt Go.RowKit
set_option linter.unusedVariables false
set_option linter.unusedSimpArgs false
set_option maxRecDepth 1000000
theorem ck3_4 : chkL Out.pc (accO G 6 64 af3.res Ns3_4) M3_4 N3_4.T.pc = true := by kernel_rfl
theorem ck3_5 : chkL Out.pc (accO G 6 64 af3.res Ns3_5) M3_5 N3_5.T.pc = true := by kernel_rfl
theorem ck3_6 : chkL Out.pc (accO G 6 64 af3.res Ns3_6) M3_6 N3_6.T.pc = true := by kernel_rfl
theorem ck3_7 : chkL Out.pc (accO G 6 64 af3.res Ns3_7) M3_7 N3_7.T.pc = true := by kernel_rfl
theorem ck3_8 : chkL Out.pc (accO G 6 64 af3.res Ns3_8) M3_8 N3_8.T.pc = true := by kernel_rfl
theorem ck3_9 : chkL Out.pc (accO G 6 64 af3.res Ns3_9) M3_9 N3_9.T.pc = true := by kernel_rfl
theorem ck3_10 : chkL Out.pc (accO G 6 64 af3.res Ns3_10) M3_10 N3_10.T.pc = true := by kernel_rfl
theorem ck3_11 : chkL Out.pc (accO G 6 64 af3.res Ns3_11) M3_11 N3_11.T.pc = true := by kernel_rfl
theorem ck3_12 : chkL Out.pc (accO G 6 64 af3.res Ns3_12) M3_12 N3_12.T.pc = true := by kernel_rfl
theorem ck3_13 : chkL Out.pc (accO G 6 64 af3.res Ns3_13) M3_13 N3_13.T.pc = true := by kernel_rfl
theorem ck3_14 : chkL Out.pc (accO G 6 64 af3.res Ns3_14) M3_14 N3_14.T.pc = true := by kernel_rfl
theorem ck3_15 : chkL Out.pc (accO G 6 64 af3.res Ns3_15) M3_15 N3_15.T.pc = true := by kernel_rfl
end Go.Proofs.YtlgfmmccnilkmaaGreatDoor.seqSums

/- Checks for SeqSums. No condition. -/
import Derived.Test.YtlgfmmccnilkmaaGreatDoorQSeqSums
namespace Go.Proofs.YtlgfmmccnilkmaaGreatDoor.seqSums
open Go.Sx Go.ChangeShapes Go.WideShapes Go.ChangeAt Go.RowKit
set_option linter.unusedVariables false
set_option linter.unusedSimpArgs false
set_option maxRecDepth 1000000
theorem ck3_16 : chkL Out.pc (accO G 6 64 af3.res Ns3_16) M3_16 N3_16.T.pc = true := by kernel_rfl
theorem ck3_17 : chkL Out.pc (accO G 6 64 af3.res Ns3_17) M3_17 N3_17.T.pc = true := by kernel_rfl
theorem ck3_18 : chkL Out.pc (accO G 6 64 af3.res Ns3_18) M3_18 N3_18.T.pc = true := by kernel_rfl
theorem ck3_19 : chkL Out.pc (accO G 6 64 af3.res Ns3_19) M3_19 N3_19.T.pc = true := by kernel_rfl
theorem ck3_20 : chkL Out.pc (accO G 6 64 af3.res Ns3_20) M3_20 N3_20.T.pc = true := by kernel_rfl
theorem ck3_21 : chkL Out.pc (accO G 6 64 af3.res Ns3_21) M3_21 N3_21.T.pc = true := by kernel_rfl
theorem ck3_22 : chkL Out.pc (accO G 6 64 af3.res Ns3_22) M3_22 N3_22.T.pc = true := by kernel_rfl
theorem ck3_23 : chkL Out.pc (accO G 6 64 af3.res Ns3_23) M3_23 N3_23.T.pc = true := by kernel_rfl
theorem ck3_24 : chkL Out.pc (accO G 6 64 af3.res Ns3_24) M3_24 N3_24.T.pc = true := by kernel_rfl
theorem ck3_25 : chkL Out.pc (accO G 6 64 af3.res Ns3_25) M3_25 N3_25.T.pc = true := by kernel_rfl
theorem ck3_26 : chkL Out.pc (accO G 6 64 af3.res Ns3_26) M3_26 N3_26.T.pc = true := by kernel_rfl
theorem ck3_27 : chkL Out.pc (accO G 6 64 af3.res Ns3_27) M3_27 N3_27.T.pc = true := by kernel_rfl
end Go.Proofs.YtlgfmmccnilkmaaGreatDoor.seqSums

/- Checks for SeqSums. No condition. -/
import Derived.Test.YtlgfmmccnilkmaaGreatDoorQSeqSums
namespace Go.Proofs.YtlgfmmccnilkmaaGreatDoor.seqSums
open Go.Sx Go.ChangeShapes Go.WideShapes Go.ChangeAt Go.RowKit
set_option linter.unusedVariables false
set_option linter.unusedSimpArgs false
set_option maxRecDepth 1000000
theorem ck4_10 : chkL Out.pc (accO G 6 64 af3.res Ns4_10) M4_10 N4_10.T.pc = true := by kernel_rfl
theorem ck4_11 : chkL Out.pc (accO G 6 64 af3.res Ns4_11) M4_11 N4_11.T.pc = true := by kernel_rfl
theorem ck4_12 : chkL Out.pc (accO G 6 64 af3.res Ns4_12) M4_12 N4_12.T.pc = true := by kernel_rfl
theorem ck4_13 : chkL Out.pc (accO G 6 64 af3.res Ns4_13) M4_13 N4_13.T.pc = true := by kernel_rfl
theorem ck4_14 : chkL Out.pc (accO G 6 64 af3.res Ns4_14) M4_14 N4_14.T.pc = true := by kernel_rfl
theorem ck4_15 : chkL Out.pc (accO G 6 64 af3.res Ns4_15) M4_15 N4_15.T.pc = true := by kernel_rfl
theorem ck4_16 : chkL Out.pc (accO G 6 64 af3.res Ns4_16) M4_16 N4_16.T.pc = true := by kernel_rfl
theorem ck4_17 : chkL Out.pc (accO G 6 64 af3.res Ns4_17) M4_17 N4_17.T.pc = true := by kernel_rfl
theorem ck4_18 : chkL Out.pc (accO G 6 64 af3.res Ns4_18) M4_18 N4_18.T.pc = true := by kernel_rfl
theorem ck4_19 : chkL Out.pc (accO G 6 64 af3.res Ns4_19) M4_19 N4_19.T.pc = true := by kernel_rfl
theorem ck4_20 : chkL Out.pc (accO G 6 64 af3.res Ns4_20) M4_20 N4_20.T.pc = true := by kernel_rfl
theorem ck4_21 : chkL Out.pc (accO G 6 64 af3.res Ns4_21) M4_21 N4_21.T.pc = true := by kernel_rfl
end Go.Proofs.YtlgfmmccnilkmaaGreatDoor.seqSums

/- Checks for SeqSums. No condition. -/
import Derived.Test.YtlgfmmccnilkmaaGreatDoorQSeqSums
namespace Go.Proofs.YtlgfmmccnilkmaaGreatDoor.seqSums
open Go.Sx Go.ChangeShapes Go.WideShapes Go.ChangeAt Go.RowKit
set_option linter.unusedVariables false
set_option linter.unusedSimpArgs false
set_option maxRecDepth 1000000
theorem ck2_10 : chkL Out.pc (accO G 6 64 af3.res Ns2_10) M2_10 N2_10.T.pc = true := by kernel_rfl
theorem ck2_11 : chkL Out.pc (accO G 6 64 af3.res Ns2_11) M2_11 N2_11.T.pc = true := by kernel_rfl
theorem ck2_12 : chkL Out.pc (accO G 6 64 af3.res Ns2_12) M2_12 N2_12.T.pc = true := by kernel_rfl
theorem ck2_13 : chkL Out.pc (accO G 6 64 af3.res Ns2_13) M2_13 N2_13.T.pc = true := by kernel_rfl
theorem ck2_14 : chkL Out.pc (accO G 6 64 af3.res Ns2_14) M2_14 N2_14.T.pc = true := by kernel_rfl
theorem ck2_15 : chkL Out.pc (accO G 6 64 af3.res Ns2_15) M2_15 N2_15.T.pc = true := by kernel_rfl
theorem ck2_16 : chkL Out.pc (accO G 6 64 af3.res Ns2_16) M2_16 N2_16.T.pc = true := by kernel_rfl
theorem ck2_17 : chkL Out.pc (accO G 6 64 af3.res Ns2_17) M2_17 N2_17.T.pc = true := by kernel_rfl
theorem ck2_18 : chkL Out.pc (accO G 6 64 af3.res Ns2_18) M2_18 N2_18.T.pc = true := by kernel_rfl
theorem ck2_19 : chkL Out.pc (accO G 6 64 af3.res Ns2_19) M2_19 N2_19.T.pc = true := by kernel_rfl
theorem ck2_20 : chkL Out.pc (accO G 6 64 af3.res Ns2_20) M2_20 N2_20.T.pc = true := by kernel_rfl
theorem ck2_21 : chkL Out.pc (accO G 6 64 af3.res Ns2_21) M2_21 N2_21.T.pc = true := by kernel_rfl
end Go.Proofs.YtlgfmmccnilkmaaGreatDoor.seqSums

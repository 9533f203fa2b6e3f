/- Checks for SeqPages. No condition. -/
import Derived.Test.YtlgfmmccnilkmaaGreatDoorQSeqPages
namespace Go.Proofs.YtlgfmmccnilkmaaGreatDoor.seqPages
open Go.Sx Go.ChangeShapes Go.WideShapes Go.ChangeAt Go.RowKit
set_option linter.unusedVariables false
set_option linter.unusedSimpArgs false
set_option maxRecDepth 1000000
theorem ck52_0 : chkL Out.pc (accO G 6 64 af4.res Ns52_0) M52_0 N52_0.T.pc = true := by kernel_rfl
theorem ck52_1 : chkL Out.pc (accO G 6 64 af4.res Ns52_1) M52_1 N52_1.T.pc = true := by kernel_rfl
theorem ck53_0 : chkL Out.pc (accO G 6 64 af4.res Ns53_0) M53_0 N53_0.T.pc = true := by kernel_rfl
theorem ck53_1 : chkL Out.pc (accO G 6 64 af4.res Ns53_1) M53_1 N53_1.T.pc = true := by kernel_rfl
theorem ck54_0 : chkL Out.pc (accO G 6 64 af4.res Ns54_0) M54_0 N54_0.T.pc = true := by kernel_rfl
theorem ck54_1 : chkL Out.pc (accO G 6 64 af4.res Ns54_1) M54_1 N54_1.T.pc = true := by kernel_rfl
theorem ck55_0 : chkL Out.pc (accO G 6 64 af4.res Ns55_0) M55_0 N55_0.T.pc = true := by kernel_rfl
theorem ck55_1 : chkL Out.pc (accO G 6 64 af4.res Ns55_1) M55_1 N55_1.T.pc = true := by kernel_rfl
theorem ck56_0 : chkL Out.pc (accO G 6 64 af4.res Ns56_0) M56_0 N56_0.T.pc = true := by kernel_rfl
theorem ck56_1 : chkL Out.pc (accO G 6 64 af4.res Ns56_1) M56_1 N56_1.T.pc = true := by kernel_rfl
theorem ck57_0 : chkL Out.pc (accO G 6 64 af4.res Ns57_0) M57_0 N57_0.T.pc = true := by kernel_rfl
theorem ck57_1 : chkL Out.pc (accO G 6 64 af4.res Ns57_1) M57_1 N57_1.T.pc = true := by kernel_rfl
theorem ck58_0 : chkL Out.pc (accO G 6 64 af4.res Ns58_0) M58_0 N58_0.T.pc = true := by kernel_rfl
theorem ck58_1 : chkL Out.pc (accO G 6 64 af4.res Ns58_1) M58_1 N58_1.T.pc = true := by kernel_rfl
theorem ck59_0 : chkL Out.pc (accO G 6 64 af4.res Ns59_0) M59_0 N59_0.T.pc = true := by kernel_rfl
theorem ck59_1 : chkL Out.pc (accO G 6 64 af4.res Ns59_1) M59_1 N59_1.T.pc = true := by kernel_rfl
theorem ck60_0 : chkL Out.pc (accO G 6 64 af4.res Ns60_0) M60_0 N60_0.T.pc = true := by kernel_rfl
end Go.Proofs.YtlgfmmccnilkmaaGreatDoor.seqPages

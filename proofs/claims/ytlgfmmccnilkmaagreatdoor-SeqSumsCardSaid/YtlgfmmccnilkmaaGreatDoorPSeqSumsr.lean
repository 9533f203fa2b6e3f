/- Checks for SeqSums. No condition. -/
import Derived.Test.YtlgfmmccnilkmaaGreatDoorQSeqSums
namespace Go.Proofs.YtlgfmmccnilkmaaGreatDoor.seqSums
open Go.Sx Go.ChangeShapes Go.WideShapes Go.ChangeAt Go.RowKit
set_option linter.unusedVariables false
set_option linter.unusedSimpArgs false
set_option maxRecDepth 1000000
theorem ck12_2 : chkL Out.pc (accO G 6 64 af3.res Ns12_2) M12_2 N12_2.T.pc = true := by kernel_rfl
theorem ck12_3 : chkL Out.pc (accO G 6 64 af3.res Ns12_3) M12_3 N12_3.T.pc = true := by kernel_rfl
theorem ck13_0 : chkL Out.pc (accO G 6 64 af3.res Ns13_0) M13_0 N13_0.T.pc = true := by kernel_rfl
end Go.Proofs.YtlgfmmccnilkmaaGreatDoor.seqSums
